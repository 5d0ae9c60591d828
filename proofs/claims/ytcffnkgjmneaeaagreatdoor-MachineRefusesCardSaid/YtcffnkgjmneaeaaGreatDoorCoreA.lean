/-
  The abstract memory, its operations, and the walk over it.
-/
import Derived.WalkKit
import Derived.MapKept
import Derived.Lib.AppendZerosOnto
import Derived.ChangeKeysEq
import Derived.Laws.StructEq
import Derived.Laws.Cover3
import Derived.Laws.BytesArg
import Derived.Deep.LoopGhost
import Derived.Deep.Quiet
namespace Go.Stx
open Go

/-- Where an abstract block lies: the concrete block, the offset of its first cell; how many cells an element of it has, and how many cells the concrete block has. -/
structure Pl where
  block : Nat
  base : Nat
  unit : Nat
  total : Nat

abbrev Mp := Nat → Option Pl

def ARel (m : Mp) (a a' : Addr) : Prop :=
  a.spot = none ∧ a'.spot = none ∧ ∃ p, m a.block = some p ∧ a'.block = p.block ∧ a'.off = p.base + a.off

/-- A slice's address: its capacity lies within the block. -/
def SRel (m : Mp) (a a' : Addr) (cap' : Nat) : Prop :=
  a.spot = none ∧ a'.spot = none ∧ ∃ p, m a.block = some p ∧ a'.block = p.block ∧ a'.off = p.base + a.off ∧ a'.off + cap' * p.unit ≤ p.total

theorem SRel.arel {m : Mp} {a a' : Addr} {c : Nat} (h : SRel m a a' c) : ARel m a a' := by
  obtain ⟨h1, h2, p, h3, h4, h5, _⟩ := h
  exact ⟨h1, h2, p, h3, h4, h5⟩

inductive VRel (m : Mp) : Value → Value → Prop
  | bool (b : Bool) : VRel m (.bool b) (.bool b)
  | int (k : IntKind) (n : Int) : VRel m (.int k n) (.int k n)
  | float (k : FloatKind) (n : Nat) : VRel m (.float k n) (.float k n)
  | complex (k : FloatKind) (x y : Nat) : VRel m (.complex k x y) (.complex k x y)
  | string (s : ByteArray) : VRel m (.string s) (.string s)
  | ptrNone : VRel m (.pointer none) (.pointer none)
  | ptr {a a' : Addr} (h : ARel m a a') : VRel m (.pointer (some a)) (.pointer (some a'))
  | sliceNone : VRel m (.slice none 0 0) (.slice none 0 0)
  | slice {a a' : Addr} {len cap cap' : Nat} (h : SRel m a a' cap' ∨ (len = 0 ∧ cap' = 0 ∧ (a.spot.isSome = true ∨ m a.block ≠ none))) (h1 : len ≤ cap) (h2 : cap ≤ cap') :
      VRel m (.slice (some a) len cap) (.slice (some a') len cap')
  | mapNone : VRel m (.map none) (.map none)
  | map {r r' : Nat} (h : ∃ p, m r = some p ∧ p.block = r') : VRel m (.map (some r)) (.map (some r'))
  | chanNone : VRel m (.chan none) (.chan none)
  | func (fn : Fn) {x x' y y' : Array Value} (hx : x.size = x'.size) (hy : y.size = y'.size)
      (h1 : ∀ (i : Nat) (v v' : Value), x[i]? = some v → x'[i]? = some v' → VRel m v v')
      (h2 : ∀ (i : Nat) (v v' : Value), y[i]? = some v → y'[i]? = some v' → VRel m v v') :
      VRel m (.func fn x y) (.func fn x' y')
  | nilFunc : VRel m .nilFunc .nilFunc
  | iface (t : TypeId) {v v' : Value} (h : VRel m v v') : VRel m (.iface t v) (.iface t v')
  | nilIface : VRel m .nilIface .nilIface
  | agg {x x' : Array Value} (hx : x.size = x'.size)
      (h1 : ∀ (i : Nat) (v v' : Value), x[i]? = some v → x'[i]? = some v' → VRel m v v') : VRel m (.agg x) (.agg x')
  | tuple {x x' : Array Value} (hx : x.size = x'.size)
      (h1 : ∀ (i : Nat) (v v' : Value), x[i]? = some v → x'[i]? = some v' → VRel m v v') : VRel m (.tuple x) (.tuple x')

def Mp.le (m m' : Mp) : Prop := ∀ i x, m i = some x → m' i = some x

theorem Mp.le_refl (m : Mp) : Mp.le m m := fun _ _ h => h
theorem Mp.le_trans {a b c : Mp} (h : Mp.le a b) (k : Mp.le b c) : Mp.le a c := fun i x e => k i x (h i x e)

theorem Mp.le_some {m m' : Mp} (hm : Mp.le m m') {i : Nat} (h : m i ≠ none) : m' i ≠ none := fun e => by
  cases hi : m i with
  | none => exact h hi
  | some p => rw [hm i p hi] at e; cases e

theorem ARel.mono {m m' : Mp} (hm : Mp.le m m') {a a' : Addr} (h : ARel m a a') : ARel m' a a' := by
  obtain ⟨h1, h2, p, h3, h4⟩ := h
  exact ⟨h1, h2, p, hm _ _ h3, h4⟩
theorem SRel.mono {m m' : Mp} (hm : Mp.le m m') {a a' : Addr} {c : Nat} (h : SRel m a a' c) : SRel m' a a' c := by
  obtain ⟨h1, h2, p, h3, h4⟩ := h
  exact ⟨h1, h2, p, hm _ _ h3, h4⟩

theorem VRel.mono {m m' : Mp} (hm : Mp.le m m') {v v' : Value} (h : VRel m v v') : VRel m' v v' := by
  induction h with
  | bool b => exact .bool b
  | int k n => exact .int k n
  | float k n => exact .float k n
  | complex k x y => exact .complex k x y
  | string s => exact .string s
  | ptrNone => exact .ptrNone
  | ptr h => exact .ptr (h.mono hm)
  | sliceNone => exact .sliceNone
  | slice h h1 h2 => exact .slice (h.imp (fun x => x.mono hm) fun ⟨e1, e2, e3⟩ => ⟨e1, e2, e3.imp id (Mp.le_some hm)⟩) h1 h2
  | mapNone => exact .mapNone
  | map h => obtain ⟨p, h1, h2⟩ := h; exact .map ⟨p, hm _ _ h1, h2⟩
  | chanNone => exact .chanNone
  | func fn hx hy _ _ ih1 ih2 => exact .func fn hx hy ih1 ih2
  | nilFunc => exact .nilFunc
  | iface t _ ih => exact .iface t ih
  | nilIface => exact .nilIface
  | agg hx _ ih => exact .agg hx ih
  | tuple hx _ ih => exact .tuple hx ih

/-- Two lists of values, element by element. -/
def LRel (m : Mp) (l l' : List Value) : Prop := l.length = l'.length ∧ ∀ (i : Nat) (v v' : Value), l[i]? = some v → l'[i]? = some v' → VRel m v v'

theorem LRel.mono {m m' : Mp} (hm : Mp.le m m') {l l' : List Value} (h : LRel m l l') : LRel m' l l' := ⟨h.1, fun i v v' a b => (h.2 i v v' a b).mono hm⟩
theorem LRel.nil {m : Mp} : LRel m [] [] := ⟨rfl, fun i v v' h => by simp at h⟩
theorem LRel.cons {m : Mp} {v v' : Value} {l l' : List Value} (h : VRel m v v') (t : LRel m l l') : LRel m (v :: l) (v' :: l') := by
  refine ⟨by simp [t.1], fun i x x' h1 h2 => ?_⟩
  cases i with
  | zero => simp at h1 h2; subst h1; subst h2; exact h
  | succ i => simp at h1 h2; exact t.2 i x x' h1 h2
theorem LRel.append {m : Mp} {a a' b b' : List Value} (h : LRel m a a') (k : LRel m b b') : LRel m (a ++ b) (a' ++ b') := by
  refine ⟨by simp [h.1, k.1], fun i v v' h1 h2 => ?_⟩
  rw [List.getElem?_append] at h1 h2
  rw [← h.1] at h2
  by_cases hi : i < a.length
  · rw [if_pos hi] at h1 h2; exact h.2 i v v' h1 h2
  · rw [if_neg hi] at h1 h2; exact k.2 _ v v' h1 h2
theorem LRel.get {m : Mp} {l l' : List Value} (h : LRel m l l') {i : Nat} {v : Value} (hi : l[i]? = some v) : ∃ v', l'[i]? = some v' ∧ VRel m v v' := by
  have hlt : i < l'.length := by rw [← h.1]; exact (List.getElem?_eq_some_iff.1 hi).1
  exact ⟨l'[i], List.getElem?_eq_getElem hlt, h.2 i v _ hi (List.getElem?_eq_getElem hlt)⟩
theorem LRel.inv_cons {m : Mp} {v : Value} {l l' : List Value} (h : LRel m (v :: l) l') : ∃ v' t', l' = v' :: t' ∧ VRel m v v' ∧ LRel m l t' := by
  cases l' with
  | nil => have := h.1; simp at this
  | cons v' t' =>
    refine ⟨v', t', rfl, h.2 0 v v' rfl rfl, ⟨by have := h.1; simpa using this, fun i x x' h1 h2 => h.2 (i + 1) x x' (by simpa using h1) (by simpa using h2)⟩⟩
theorem LRel.inv_nil {m : Mp} {l' : List Value} (h : LRel m [] l') : l' = [] := by
  exact List.eq_nil_of_length_eq_zero h.1.symm

/-- An abstract object: a row of cells ('own': we may write it; 'unit': how many cells an element has), or a map. -/
inductive AObj where
  | cells (cs : List Value) (own : Bool) (unit : Nat)
  | map (es : List (Value × Value)) (own : Bool)

structure AW where
  next : Nat
  get : Nat → Option AObj

def AW.set (A : AW) (i : Nat) (o : Option AObj) : AW := { A with get := fun j => if j = i then o else A.get j }
def AW.alloc (A : AW) (o : AObj) : AW := { next := A.next + 1, get := fun j => if j = A.next then some o else A.get j }

def AObj.own : AObj → Bool
  | .cells _ o _ => o
  | .map _ o => o

def OMatch (m : Mp) (w : World) (p : Pl) : AObj → Prop
  | .cells cs own unit => ∃ cur e fr, w.heap[p.block]? = some (.cells cur e fr) ∧ (own = true → fr = (0, 0)) ∧ unit = p.unit ∧ cur.size = p.total ∧
      ∀ (k : Nat) (v : Value), cs[k]? = some v → ∃ v', cur[p.base + k]? = some v' ∧ VRel m v v'
  | .map es0 _ => ∃ ents clock es, es0.Perm es ∧ w.heap[p.block]? = some (.map ents clock) ∧ es.length = ents.size ∧
      ∀ (k : Nat) (x : Value × Value) (e : MapEntry), es[k]? = some x → ents[k]? = some e → VRel m x.1 e.key ∧ VRel m x.2 e.val

theorem OMatch.heap {m : Mp} {w w' : World} {p : Pl} {o : AObj} (h : OMatch m w p o) (e : w'.heap[p.block]? = w.heap[p.block]?) : OMatch m w' p o := by
  cases o with
  | cells cs own unit =>
    obtain ⟨cur, e', fr, h3, h4⟩ := h
    exact ⟨cur, e', fr, by rw [e]; exact h3, h4⟩
  | map es own =>
    obtain ⟨ents, clock, es', hp, h3, h4⟩ := h
    exact ⟨ents, clock, es', hp, by rw [e]; exact h3, h4⟩

theorem OMatch.mono {m m' : Mp} {w : World} {p : Pl} {o : AObj} (hm : Mp.le m m') (h : OMatch m w p o) : OMatch m' w p o := by
  cases o with
  | cells cs own unit =>
    obtain ⟨cur, e', fr, h3, h4, h5, h6, h7⟩ := h
    refine ⟨cur, e', fr, h3, h4, h5, h6, fun k v hv => ?_⟩
    obtain ⟨v', h8, h9⟩ := h7 k v hv
    exact ⟨v', h8, h9.mono hm⟩
  | map es own =>
    obtain ⟨ents, clock, es', hp, h3, h4, h5⟩ := h
    exact ⟨ents, clock, es', hp, h3, h4, fun k x e a b => ⟨(h5 k x e a b).1.mono hm, (h5 k x e a b).2.mono hm⟩⟩

theorem OMatch.lt {m : Mp} {w : World} {p : Pl} {o : AObj} (h : OMatch m w p o) : p.block < w.heap.size := by
  cases o with
  | cells cs own unit =>
    obtain ⟨cur, e', fr, h3, _⟩ := h
    exact (Array.getElem?_eq_some_iff.1 h3).1
  | map es own =>
    obtain ⟨ents, clock, es', _, h3, _⟩ := h
    exact (Array.getElem?_eq_some_iff.1 h3).1

/-- Blocks of the world whose contents are known and stay as they are (package-level variables). -/
class Gl where
  B : Nat → Option Obj
  /-- The variables whose addresses the code may use, and a bound of their numbers. -/
  ok : Nat → Bool := fun _ => false
  N : Nat := 0
  lt : ∀ g, ok g = true → g < N := by simp

variable [Gl]
set_option linter.unusedSectionVars false

/-- A variable's address is its own number. -/
def glSize (g : Nat) : Nat := match Gl.B g with | some (.cells cur _ _) => cur.size | _ => 0
def Globs (m : Mp) : Prop := ∀ g, Gl.ok g = true → m g = some ⟨g, 0, 1, glSize g⟩
theorem Globs.mono {m m' : Mp} (hm : Mp.le m m') (h : Globs m) : Globs m' := fun g hg => hm _ _ (h g hg)

structure Sim (m : Mp) (A : AW) (w : World) : Prop where
  obj : ∀ i o, A.get i = some o → ∃ p, m i = some p ∧ OMatch m w p o
  inj : ∀ i j o o' p p', A.get i = some o → o.own = true → A.get j = some o' → i ≠ j → m i = some p → m j = some p' → p.block ≠ p'.block
  fresh : ∀ i, A.next ≤ i → m i = none
  low : ∀ i, A.next ≤ i → A.get i = none
  laid : ∀ b x, Gl.B b = some x → w.heap[b]? = some x
  lown : ∀ i o p, A.get i = some o → o.own = true → m i = some p → Gl.B p.block = none
  glob : Globs m

/-- The blocks that we may write. -/
def OwnB (m : Mp) (A : AW) (b : Nat) : Prop := ∃ i o p, A.get i = some o ∧ o.own = true ∧ m i = some p ∧ p.block = b

/-- The blocks that we know of. -/
def UsedB (m : Mp) (A : AW) (b : Nat) : Prop := ∃ i o p, A.get i = some o ∧ m i = some p ∧ p.block = b

/-- From one state to a later one. -/
structure Evo (m : Mp) (A : AW) (w : World) (m' : Mp) (A' : AW) (w' : World) : Prop where
  ext : Mp.le m m'
  sim : Sim m' A' w'
  next : A.next ≤ A'.next
  os : w'.os = w.os
  tape : w'.tape = w.tape
  output : w'.output = w.output
  size : w.heap.size ≤ w'.heap.size
  out : ∀ b, b < w.heap.size → ¬ OwnB m A b → w'.heap[b]? = w.heap[b]?
  grow : ∀ b, OwnB m' A' b → OwnB m A b ∨ w.heap.size ≤ b
  keep : ∀ i, i < A.next → m' i = m i
  used : ∀ b, UsedB m' A' b → UsedB m A b ∨ w.heap.size ≤ b ∨ Gl.B b ≠ none

theorem Evo.refl {m : Mp} {A : AW} {w : World} (h : Sim m A w) : Evo m A w m A w :=
  ⟨Mp.le_refl m, h, Nat.le_refl _, rfl, rfl, rfl, Nat.le_refl _, fun _ _ _ => rfl, fun _ h => .inl h, fun _ _ => rfl, fun _ h => .inl h⟩

theorem Evo.trans {m m1 m2 : Mp} {A A1 A2 : AW} {w w1 w2 : World} (h : Evo m A w m1 A1 w1) (k : Evo m1 A1 w1 m2 A2 w2) : Evo m A w m2 A2 w2 := by
  refine ⟨Mp.le_trans h.ext k.ext, k.sim, Nat.le_trans h.next k.next, k.os.trans h.os, k.tape.trans h.tape, k.output.trans h.output, Nat.le_trans h.size k.size, ?_, ?_, fun i hi => (k.keep i (Nat.lt_of_lt_of_le hi h.next)).trans (h.keep i hi), ?_⟩
  · intro b hb ho
    rw [k.out b (Nat.lt_of_lt_of_le hb h.size) (fun hx => ?_), h.out b hb ho]
    rcases h.grow b hx with h1 | h1
    · exact ho h1
    · omega
  · intro b hb
    rcases k.grow b hb with h1 | h1
    · exact h.grow b h1
    · exact .inr (Nat.le_trans h.size h1)
  · intro b hb
    rcases k.used b hb with h1 | h1 | h1
    · exact h.used b h1
    · exact .inr (.inl (Nat.le_trans h.size h1))
    · exact .inr (.inr h1)

/-- What depends on the heap alone. -/
theorem Sim.of_heap {m : Mp} {A : AW} {w w' : World} (h : Sim m A w) (e : w'.heap = w.heap) : Sim m A w' := by
  refine ⟨fun i o hi => ?_, h.inj, h.fresh, h.low, fun b x hb => by rw [e]; exact h.laid b x hb, h.lown, h.glob⟩
  obtain ⟨p, h1, h2⟩ := h.obj i o hi
  exact ⟨p, h1, h2.heap (by rw [e])⟩

/-- A draw changes nothing that we speak of. -/
theorem Evo.drew {m : Mp} {A : AW} {w : World} (h : Sim m A w) : Evo m A w m A w.drew :=
  ⟨Mp.le_refl m, h.of_heap rfl, Nat.le_refl _, rfl, rfl, rfl, Nat.le_refl _, fun _ _ _ => rfl, fun _ h => .inl h, fun _ _ => rfl, fun _ h => .inl h⟩

end Go.Stx

namespace Go.Stx
open Go
variable [Gl]
set_option linter.unusedSectionVars false
set_option linter.unusedVariables false

theorem addr_add (a : Addr) (n : Nat) (h : a.spot = none) : a.add n = ⟨a.block, a.off + n, none⟩ := by
  obtain ⟨b, o, s⟩ := a
  simp only at h
  subst h
  unfold Addr.add
  split
  · rename_i h0; subst h0; rfl
  · rfl

theorem addr_eta (a : Addr) (h : a.spot = none) : a = ⟨a.block, a.off, none⟩ := by
  obtain ⟨b, o, s⟩ := a
  simp only at h
  subst h
  rfl

theorem VRel.oneCell {m : Mp} {v v' : Value} (h : VRel m v v') : v'.oneCell' = v.oneCell' := by cases h <;> rfl

theorem VRel.cells {m : Mp} {v v' : Value} (h : VRel m v v') : LRel m v.cells.toList v'.cells.toList := by
  have h0 := h
  cases h with
  | agg hx h1 => exact ⟨by simpa [Value.cells] using hx, fun i x x' a b => h1 i x x' (by simpa [Value.cells] using a) (by simpa [Value.cells] using b)⟩
  | _ => exact .cons h0 .nil

/-! ### Loads -/

/-- The cells of an abstract block. -/
def AW.row (A : AW) (i : Nat) : Option (List Value) :=
  match A.get i with
  | some (.cells cs _ _) => some cs
  | _ => none

theorem cell_rel {m : Mp} {A : AW} {w : World} (hs : Sim m A w) {a a' : Addr} (ha : ARel m a a') {cs : List Value} (hr : A.row a.block = some cs) {k : Nat} {v : Value}
    (hv : cs[a.off + k]? = some v) : ∃ v', w.cell? (a'.add k) = some v' ∧ VRel m v v' := by
  obtain ⟨h1, h2, p, h3, hb, h4⟩ := ha
  unfold AW.row at hr
  split at hr
  · rename_i cs' own unit hg
    simp only [Option.some.injEq] at hr
    subst hr
    obtain ⟨p', h5, cur, e, fr, h6, _, _, _, h7⟩ := hs.obj _ _ hg
    rw [h3] at h5
    simp only [Option.some.injEq] at h5
    subst h5
    obtain ⟨v', h8, h9⟩ := h7 _ _ hv
    refine ⟨v', ?_, h9⟩
    rw [addr_add _ _ h2]
    simp only [World.cell?, hb, h6, Option.isSome_none, Bool.false_eq_true, if_false]
    rw [h4, Nat.add_assoc]
    exact h8
  · simp at hr

theorem load_rel {P : Program} {m : Mp} {A : AW} {w : World} (hs : Sim m A w) {a a' : Addr} (ha : ARel m a a') {cs : List Value} (hr : A.row a.block = some cs) {v : Value}
    (hv : cs[a.off]? = some v) : ∃ v', (load a').run P w = .ok v' w ∧ VRel m v v' := by
  obtain ⟨v', h1, h2⟩ := cell_rel hs ha hr (k := 0) (by simpa using hv)
  refine ⟨v', ?_, h2⟩
  have e : a'.add 0 = a' := by unfold Addr.add; simp
  rw [e] at h1
  rw [run_load, h1]

theorem loadCells_rel {P : Program} {m : Mp} {A : AW} {w : World} (hs : Sim m A w) {a a' : Addr} (ha : ARel m a a') {cs : List Value} (hr : A.row a.block = some cs) (n : Nat)
    (hn : a.off + n ≤ cs.length) : ∃ l', (loadCells a' n).run P w = .ok l'.toArray w ∧ LRel m ((cs.drop a.off).take n) l' := by
  have h : ∀ j, j < n → ∃ v', w.cell? (a'.add j) = some v' ∧ VRel m (cs.getD (a.off + j) undef) v' := fun j hj =>
    cell_rel hs ha hr (by rw [List.getD_eq_getElem?_getD, List.getElem?_eq_getElem (by omega)]; rfl)
  let f : Nat → Value := fun j => (w.cell? (a'.add j)).getD undef
  have hf : ∀ j, j < n → w.cell? (a'.add j) = some (f j) := fun j hj => by
    obtain ⟨v', h1, _⟩ := h j hj
    simp [f, h1]
  refine ⟨(List.range n).map f, run_loadCells w a' n f hf, ?_, ?_⟩
  · simp; omega
  · intro i v v' h1 h2
    have hi : i < n := by
      have := (List.getElem?_eq_some_iff.1 h2).1
      simpa using this
    obtain ⟨v1, h3, h4⟩ := h i hi
    have e1 : cs.getD (a.off + i) undef = v := by
      rw [List.getElem?_take_of_lt hi, List.getElem?_drop] at h1
      rw [List.getD_eq_getElem?_getD, h1]; rfl
    have e2 : v' = v1 := by
      simp [hi, f, h3] at h2
      exact h2.symm
    rw [e1] at h4
    rw [e2]
    exact h4

/-! ### Stores -/

def setCells (cs : List Value) (off : Nat) : List Value → List Value
  | [] => cs
  | v :: vs => setCells (cs.set off v) (off + 1) vs

theorem length_setCells (vs : List Value) : ∀ (cs : List Value) (off : Nat), (setCells cs off vs).length = cs.length := by
  induction vs with
  | nil => intro cs off; rfl
  | cons v vs ih => intro cs off; simp [setCells, ih]

theorem AW.set_get_same {A : AW} {i : Nat} {o : Option AObj} : (A.set i o).get i = o := by simp [AW.set]
theorem AW.set_get_ne {A : AW} {i j : Nat} {o : Option AObj} (h : j ≠ i) : (A.set i o).get j = A.get j := by simp [AW.set, h]
theorem AW.set_set {A : AW} {i : Nat} {o o' : Option AObj} : (A.set i o).set i o' = A.set i o' := by
  unfold AW.set
  congr 1
  funext j
  dsimp only
  split <;> rfl
theorem AW.set_self {A : AW} {i : Nat} {o : Option AObj} (h : A.get i = o) : A.set i o = A := by
  obtain ⟨n, g⟩ := A
  unfold AW.set
  simp only at h ⊢
  congr 1
  funext j
  split
  · rename_i e; rw [e, h]
  · rfl

/-- An object of ours is turned. -/
theorem Evo.setO {m : Mp} {A : AW} {w w' : World} (hs : Sim m A w) {i : Nat} {p : Pl} {o0 o1 : AObj}
    (hg : A.get i = some o0) (hw0 : o0.own = true) (hw1 : o1.own = true) (hm : m i = some p)
    (hsz : w'.heap.size = w.heap.size) (hos : w'.os = w.os) (ht : w'.tape = w.tape) (ho : w'.output = w.output)
    (hb : OMatch m w' p o1) (hother : ∀ j, j ≠ p.block → w'.heap[j]? = w.heap[j]?) :
    Evo m A w m (A.set i (some o1)) w' := by
  refine ⟨Mp.le_refl m, ⟨?_, ?_, hs.fresh, ?_, ?_, ?_, hs.glob⟩, Nat.le_refl _, hos, ht, ho, by omega, ?_, ?_, fun _ _ => rfl, ?_⟩
  rotate_left 3
  · intro b x hb'
    rw [hother b (fun e => by have := hs.lown i o0 p hg hw0 hm; rw [← e, hb'] at this; cases this)]
    exact hs.laid b x hb'
  · intro j o p' hj how hmj
    by_cases hji : j = i
    · subst hji
      exact hs.lown j o0 p' hg hw0 hmj
    · rw [AW.set_get_ne hji] at hj
      exact hs.lown j o p' hj how hmj
  rotate_left 3
  · intro j o hj
    by_cases hji : j = i
    · subst hji
      rw [AW.set_get_same] at hj
      simp only [Option.some.injEq] at hj
      subst hj
      exact ⟨p, hm, hb⟩
    · rw [AW.set_get_ne hji] at hj
      obtain ⟨p', h1, h2⟩ := hs.obj j o hj
      have hne : p'.block ≠ p.block := fun e' => hs.inj i j _ o p p' hg hw0 hj (Ne.symm hji) hm h1 e'.symm
      exact ⟨p', h1, h2.heap (hother _ hne)⟩
  · intro j j' o o' p1 p2 hj how hj' hne hm1 hm2
    by_cases hji : j = i
    · subst hji
      rw [AW.set_get_ne (Ne.symm hne)] at hj'
      exact hs.inj j j' _ o' p1 p2 hg hw0 hj' hne hm1 hm2
    · rw [AW.set_get_ne hji] at hj
      by_cases hj'i : j' = i
      · subst hj'i
        exact hs.inj j j' o _ p1 p2 hj how hg hne hm1 hm2
      · rw [AW.set_get_ne hj'i] at hj'
        exact hs.inj j j' o o' p1 p2 hj how hj' hne hm1 hm2
  · intro j hj
    have hji : j ≠ i := fun e => by
      subst e
      rw [hs.low j hj] at hg
      cases hg
    rw [AW.set_get_ne hji]
    exact hs.low j hj
  · intro b' _ ho'
    refine hother b' (fun e' => ho' ?_)
    subst e'
    exact ⟨i, _, p, hg, hw0, hm, rfl⟩
  · rintro b' ⟨j, o, p', hj, how, hmj, hb'⟩
    by_cases hji : j = i
    · subst hji
      exact .inl ⟨j, _, p', hg, hw0, hmj, hb'⟩
    · rw [AW.set_get_ne hji] at hj
      exact .inl ⟨j, o, p', hj, how, hmj, hb'⟩
  · rintro b' ⟨j, o, p', hj, hmj, hb'⟩
    by_cases hji : j = i
    · subst hji
      exact .inl ⟨j, _, p', hg, hmj, hb'⟩
    · rw [AW.set_get_ne hji] at hj
      exact .inl ⟨j, o, p', hj, hmj, hb'⟩

theorem Evo.set {m : Mp} {A : AW} {w w' : World} (hs : Sim m A w) {i : Nat} {p : Pl} {cs cs' : List Value} {unit : Nat} {cur' : Array Value} {e : TypeId}
    (hg : A.get i = some (.cells cs true unit)) (hm : m i = some p) (hu : unit = p.unit)
    (hsz : w'.heap.size = w.heap.size) (hos : w'.os = w.os) (ht : w'.tape = w.tape) (ho : w'.output = w.output)
    (hb : w'.heap[p.block]? = some (.cells cur' e (0, 0))) (htot : cur'.size = p.total) (hother : ∀ j, j ≠ p.block → w'.heap[j]? = w.heap[j]?)
    (hrel : ∀ (k : Nat) (v : Value), cs'[k]? = some v → ∃ v', cur'[p.base + k]? = some v' ∧ VRel m v v') :
    Evo m A w m (A.set i (some (.cells cs' true unit))) w' :=
  Evo.setO hs hg rfl rfl hm hsz hos ht ho ⟨cur', e, (0, 0), hb, fun _ => rfl, hu, htot, hrel⟩ hother

theorem store1_rel {P : Program} {m : Mp} {A : AW} {w : World} (hs : Sim m A w) {i k unit : Nat} {p : Pl} {cs : List Value} (hg : A.get i = some (.cells cs true unit))
    (hm : m i = some p) (hk : k < cs.length) {v v' : Value} (hv : VRel m v v') (h1 : v.oneCell' = true) :
    ∃ w', (store ⟨p.block, p.base + k, none⟩ v').run P w = .ok () w' ∧ Evo m A w m (A.set i (some (.cells (cs.set k v) true unit))) w' := by
  obtain ⟨p1, h2, cur, e, fr, h3, h4, hu, htot, h5⟩ := hs.obj i _ hg
  rw [hm] at h2
  simp only [Option.some.injEq] at h2
  subst h2
  have hfr := h4 rfl
  subst hfr
  obtain ⟨u, h6, _⟩ := h5 k cs[k] (List.getElem?_eq_getElem hk)
  have hlt : p.base + k < cur.size := (Array.getElem?_eq_some_iff.1 h6).1
  have hcell : w.cell? ⟨p.block, p.base + k, none⟩ = some u := by simp [World.cell?, h3, h6]
  have hfz : w.frozen? ⟨p.block, p.base + k, none⟩ = false := by simp [World.frozen?, h3]
  refine ⟨w.setCell ⟨p.block, p.base + k, none⟩ v', ?_, ?_⟩
  · rw [run_store P w _ _ _ (by rw [hv.oneCell]; exact h1), hcell]
    simp [hfz]
  · refine Evo.set hs (cur' := cur.setIfInBounds (p.base + k) v') (e := e) hg hm hu (by simp) rfl rfl rfl ?_ (by simpa using htot) ?_ ?_
    · simp only [World.setCell, Array.getElem?_modify, h3]
      simp
    · intro j hj
      simp only [World.setCell, Array.getElem?_modify]
      rw [if_neg (by omega)]
    · intro j x hx
      by_cases hjk : k = j
      · subst hjk
        rw [List.getElem?_set_self hk] at hx
        simp only [Option.some.injEq] at hx
        subst hx
        exact ⟨v', by simp [hlt], hv⟩
      · rw [List.getElem?_set_ne hjk] at hx
        obtain ⟨x', h7, h8⟩ := h5 j x hx
        exact ⟨x', by rw [Array.getElem?_setIfInBounds_ne (by omega)]; exact h7, h8⟩

theorem storeCells_rel {P : Program} {m : Mp} {i o unit : Nat} {p : Pl} (hm : m i = some p) : ∀ (vs vs' : List Value) (k : Nat) (cs : List Value) (A : AW) (w : World),
    Sim m A w → A.get i = some (.cells cs true unit) → LRel m vs vs' → (∀ v ∈ vs, v.oneCell' = true) → o + k + vs.length ≤ cs.length →
    ∃ w', (storeCells ⟨p.block, p.base + o, none⟩ vs' k).run P w = .ok () w' ∧ Evo m A w m (A.set i (some (.cells (setCells cs (o + k) vs) true unit))) w'
  | [], vs', k, cs, A, w, hs, hg, hl, _, _ => by
    have e := hl.inv_nil
    subst e
    refine ⟨w, rfl, ?_⟩
    rw [setCells, AW.set_self hg]
    exact Evo.refl hs
  | v :: vs, vs', k, cs, A, w, hs, hg, hl, h1, hlen => by
    obtain ⟨v', t', rfl, hv, ht⟩ := hl.inv_cons
    simp only [List.length_cons] at hlen
    obtain ⟨w1, hr1, ev1⟩ := store1_rel (P := P) hs hg hm (k := o + k) (by omega) hv (h1 v (by simp))
    obtain ⟨w2, hr2, ev2⟩ := storeCells_rel (P := P) (o := o) hm vs t' (k + 1) (cs.set (o + k) v) _ w1 ev1.sim AW.set_get_same ht (fun x hx => h1 x (by simp [hx]))
      (by simp; omega)
    refine ⟨w2, ?_, ?_⟩
    · have ea : (⟨p.block, p.base + o, none⟩ : Addr).add k = ⟨p.block, p.base + (o + k), none⟩ := by rw [addr_add _ _ rfl]; simp [Nat.add_assoc]
      simp only [storeCells, Sem.run_bind, ea, hr1, Result.andThen_ok, hr2]
    · have := ev1.trans ev2
      rw [AW.set_set] at this
      rw [setCells, show o + k + 1 = o + (k + 1) by omega]
      exact this

/-! ### New blocks -/

theorem heapAllocOld (w : World) (o : Obj) (i : Nat) (h : i < w.heap.size) : (w.alloc o).heap[i]? = w.heap[i]? := by
  show (w.heap.push o)[i]? = _
  rw [Array.getElem?_push, if_neg (by omega)]
theorem heapAllocNew (w : World) (o : Obj) : (w.alloc o).heap[w.heap.size]? = some o := by
  show (w.heap.push o)[w.heap.size]? = _
  simp

def Mp.ext (m : Mp) (i : Nat) (x : Pl) : Mp := fun j => if j = i then some x else m j

theorem Sim.le_ext {m : Mp} {A : AW} {w : World} (hs : Sim m A w) (x : Pl) : Mp.le m (m.ext A.next x) := by
  intro i y h
  unfold Mp.ext
  split
  · rename_i e
    rw [e, hs.fresh A.next (Nat.le_refl _)] at h
    cases h
  · exact h

theorem Sim.blk {m : Mp} {A : AW} {w : World} (hs : Sim m A w) {j : Nat} {o : AObj} {p : Pl} (h : A.get j = some o) (hm : m j = some p) : p.block < w.heap.size := by
  obtain ⟨p1, h1, h2⟩ := hs.obj j o h
  rw [hm] at h1
  simp only [Option.some.injEq] at h1
  subst h1
  exact h2.lt

/-- A new abstract object, at a concrete block that is new. -/
theorem Evo.freshO {m : Mp} {A : AW} {w w' : World} (hs : Sim m A w) (o1 : AObj) (p : Pl)
    (hos : w'.os = w.os) (ht : w'.tape = w.tape) (ho : w'.output = w.output) (hsz : w.heap.size ≤ w'.heap.size)
    (hold : ∀ b, b < w.heap.size → w'.heap[b]? = w.heap[b]?) (hp : w.heap.size ≤ p.block) (hb : OMatch m w' p o1) :
    Evo m A w (m.ext A.next p) (A.alloc o1) w' := by
  have hle := hs.le_ext p
  have old : ∀ {j o}, A.get j = some o → j ≠ A.next := fun {j o} h e => by
    subst e
    rw [hs.low _ (Nat.le_refl _)] at h
    cases h
  have mold : ∀ {j}, j ≠ A.next → (m.ext A.next p) j = m j := fun {j} h => by simp [Mp.ext, h]
  have gold : ∀ {j}, j ≠ A.next → (A.alloc o1).get j = A.get j := fun {j} h => by simp [AW.alloc, h]
  have mnew : (m.ext A.next p) A.next = some p := by simp [Mp.ext]
  have gnew : (A.alloc o1).get A.next = some o1 := by simp [AW.alloc]
  refine ⟨hle, ⟨?_, ?_, ?_, ?_, ?_, ?_, hs.glob.mono hle⟩, by simp [AW.alloc], hos, ht, ho, hsz, fun b hb _ => hold b hb, ?_, fun i hi => mold (by omega), ?_⟩
  rotate_left 4
  · intro b x hb'
    have h1 := hs.laid b x hb'
    rw [hold b (Array.getElem?_eq_some_iff.1 h1).1]; exact h1
  · intro j o p' hj how hmj
    by_cases hn : j = A.next
    · subst hn
      rw [mnew] at hmj
      simp only [Option.some.injEq] at hmj
      subst hmj
      cases hB : Gl.B p.block with
      | none => rfl
      | some x => have h1 := (Array.getElem?_eq_some_iff.1 (hs.laid _ x hB)).1; omega
    · rw [gold hn] at hj
      rw [mold hn] at hmj
      exact hs.lown j o p' hj how hmj
  rotate_left 2
  · intro j o hj
    by_cases hn : j = A.next
    · subst hn
      rw [gnew] at hj
      simp only [Option.some.injEq] at hj
      subst hj
      exact ⟨p, mnew, hb.mono hle⟩
    · rw [gold hn] at hj
      obtain ⟨p', h1, h2⟩ := hs.obj j o hj
      have hlt := hs.blk hj h1
      exact ⟨p', by rw [mold hn]; exact h1, (h2.heap (hold _ hlt)).mono hle⟩
  · intro i j o o' p1 p2 hi how hj hne hmi hmj
    by_cases hin : i = A.next
    · subst hin
      rw [mnew] at hmi
      simp only [Option.some.injEq] at hmi
      subst hmi
      rw [gold (Ne.symm hne)] at hj
      rw [mold (Ne.symm hne)] at hmj
      have := hs.blk hj hmj
      omega
    · rw [gold hin] at hi
      rw [mold hin] at hmi
      by_cases hjn : j = A.next
      · subst hjn
        rw [mnew] at hmj
        simp only [Option.some.injEq] at hmj
        subst hmj
        have := hs.blk hi hmi
        omega
      · rw [gold hjn] at hj
        rw [mold hjn] at hmj
        exact hs.inj i j o o' p1 p2 hi how hj hne hmi hmj
  · intro i hi
    have : i ≠ A.next := by simp [AW.alloc] at hi; omega
    rw [mold this]
    exact hs.fresh i (by simp [AW.alloc] at hi; omega)
  · intro i hi
    have : i ≠ A.next := by simp [AW.alloc] at hi; omega
    rw [gold this]
    exact hs.low i (by simp [AW.alloc] at hi; omega)
  · rintro b ⟨i, o, p', hi, how, hm, hb⟩
    by_cases hn : i = A.next
    · subst hn
      rw [mnew] at hm
      simp only [Option.some.injEq] at hm
      subst hm
      exact .inr (by omega)
    · rw [gold hn] at hi
      rw [mold hn] at hm
      exact .inl ⟨i, o, p', hi, how, hm, hb⟩
  · rintro b ⟨i, o, p', hi, hm, hb⟩
    by_cases hn : i = A.next
    · subst hn
      rw [mnew] at hm
      simp only [Option.some.injEq] at hm
      subst hm
      exact .inr (.inl (by omega))
    · rw [gold hn] at hi
      rw [mold hn] at hm
      exact .inl ⟨i, o, p', hi, hm, hb⟩

theorem Evo.fresh {m : Mp} {A : AW} {w w' : World} (hs : Sim m A w) (cs : List Value) (own : Bool) (p : Pl) {cur : Array Value} {e : TypeId} (unit : Nat)
    (hos : w'.os = w.os) (ht : w'.tape = w.tape) (ho : w'.output = w.output) (hsz : w.heap.size ≤ w'.heap.size)
    (hold : ∀ b, b < w.heap.size → w'.heap[b]? = w.heap[b]?) (hp : w.heap.size ≤ p.block) (hu : unit = p.unit)
    (hb : w'.heap[p.block]? = some (.cells cur e (0, 0))) (htot : cur.size = p.total)
    (hrel : ∀ (k : Nat) (v : Value), cs[k]? = some v → ∃ v', cur[p.base + k]? = some v' ∧ VRel m v v') :
    Evo m A w (m.ext A.next p) (A.alloc (.cells cs own unit)) w' :=
  Evo.freshO hs _ p hos ht ho hsz hold hp ⟨cur, e, (0, 0), hb, fun _ => rfl, hu, htot, hrel⟩

theorem Evo.alloc {m : Mp} {A : AW} {w : World} (hs : Sim m A w) (cs : List Value) (cur : Array Value) (e : TypeId) (unit : Nat)
    (hrel : ∀ (k : Nat) (v : Value), cs[k]? = some v → ∃ v', cur[k]? = some v' ∧ VRel m v v') :
    Evo m A w (m.ext A.next ⟨w.heap.size, 0, unit, cur.size⟩) (A.alloc (.cells cs true unit)) (w.alloc (.cells cur e)) :=
  Evo.fresh hs cs true ⟨w.heap.size, 0, unit, cur.size⟩ unit rfl rfl rfl (by simp) (fun b hb => heapAllocOld w _ b hb) (Nat.le_refl _) rfl
    (heapAllocNew w _) rfl (by simpa using hrel)

theorem ARel.new (m : Mp) (i : Nat) (p : Pl) (o : Nat) : ARel (m.ext i p) ⟨i, o, none⟩ ⟨p.block, p.base + o, none⟩ := ⟨rfl, rfl, p, by simp [Mp.ext], rfl, rfl⟩

end Go.Stx

namespace Go.Stx
open Go
variable [Gl]
set_option linter.unusedSectionVars false

theorem Evo.kill {m : Mp} {A : AW} {w : World} (hs : Sim m A w) (i : Nat) : Evo m A w m (A.set i none) w := by
  have key : ∀ {j o}, (A.set i none).get j = some o → A.get j = some o := fun {j o} h => by
    by_cases hj : j = i
    · subst hj; rw [AW.set_get_same] at h; cases h
    · rwa [AW.set_get_ne hj] at h
  refine ⟨Mp.le_refl m, ⟨fun j o h => hs.obj j o (key h), fun a b o o' p p' h1 h2 h3 h4 h5 h6 => hs.inj a b o o' p p' (key h1) h2 (key h3) h4 h5 h6, hs.fresh, ?_, hs.laid, fun a o p h1 h2 h3 => hs.lown a o p (key h1) h2 h3, hs.glob⟩,
    Nat.le_refl _, rfl, rfl, rfl, Nat.le_refl _, fun _ _ _ => rfl, ?_, fun _ _ => rfl, ?_⟩
  · intro j hj
    by_cases hji : j = i
    · subst hji; exact AW.set_get_same
    · rw [AW.set_get_ne hji]; exact hs.low j hj
  · rintro b ⟨j, o, p, h1, h2, h3, h4⟩
    exact .inl ⟨j, o, p, key h1, h2, h3, h4⟩
  · rintro b ⟨j, o, p, h1, h2, h3⟩
    exact .inl ⟨j, o, p, key h1, h2, h3⟩

/-- A new abstract block at the concrete block of one that is given up. -/
theorem Evo.adopt {m : Mp} {A : AW} {w w' : World} (hs : Sim m A w) {i : Nat} {p p' : Pl} {cs cs' : List Value} {unit : Nat} {cur' : Array Value} {e : TypeId}
    (hg : A.get i = some (.cells cs true unit)) (hm : m i = some p) (hpb : p'.block = p.block) (hu : unit = p'.unit)
    (hsz : w'.heap.size = w.heap.size) (hos : w'.os = w.os) (ht : w'.tape = w.tape) (ho : w'.output = w.output)
    (hb : w'.heap[p.block]? = some (.cells cur' e (0, 0))) (htot : cur'.size = p'.total) (hother : ∀ j, j ≠ p.block → w'.heap[j]? = w.heap[j]?)
    (hrel : ∀ (k : Nat) (v : Value), cs'[k]? = some v → ∃ v', cur'[p'.base + k]? = some v' ∧ VRel m v v') :
    Evo m A w (m.ext A.next p') ((A.set i none).alloc (.cells cs' true unit)) w' := by
  have hle := hs.le_ext p'
  have old : ∀ {j o}, A.get j = some o → j ≠ A.next := fun {j o} h e => by
    subst e
    rw [hs.low _ (Nat.le_refl _)] at h
    cases h
  have mold : ∀ {j}, j ≠ A.next → (m.ext A.next p') j = m j := fun {j} h => by simp [Mp.ext, h]
  have mnew : (m.ext A.next p') A.next = some p' := by simp [Mp.ext]
  have gnew : ((A.set i none).alloc (.cells cs' true unit)).get A.next = some (.cells cs' true unit) := by simp [AW.alloc, AW.set]
  have gold : ∀ {j o}, j ≠ A.next → ((A.set i none).alloc (.cells cs' true unit)).get j = some o → A.get j = some o ∧ j ≠ i := fun {j o} h1 h2 => by
    have e : ((A.set i none).alloc (.cells cs' true unit)).get j = (A.set i none).get j := by
      exact if_neg h1
    rw [e] at h2
    by_cases hji : j = i
    · subst hji; rw [AW.set_get_same] at h2; cases h2
    · rw [AW.set_get_ne hji] at h2; exact ⟨h2, hji⟩
  refine ⟨hle, ⟨?_, ?_, ?_, ?_, ?_, ?_, hs.glob.mono hle⟩, by simp [AW.alloc, AW.set], hos, ht, ho, by omega, ?_, ?_, fun j hj => mold (by omega), ?_⟩
  rotate_left 4
  · intro b x hb'
    rw [hother b (fun e => by have := hs.lown i _ p hg rfl hm; rw [← e, hb'] at this; cases this)]
    exact hs.laid b x hb'
  · intro j o q hj how hmj
    by_cases hn : j = A.next
    · subst hn
      rw [mnew] at hmj
      simp only [Option.some.injEq] at hmj
      subst hmj
      rw [hpb]
      exact hs.lown i _ p hg rfl hm
    · rw [mold hn] at hmj
      exact hs.lown j o q (gold hn hj).1 how hmj
  rotate_left 3
  · intro j o hj
    by_cases hn : j = A.next
    · subst hn
      rw [gnew] at hj
      simp only [Option.some.injEq] at hj
      subst hj
      refine ⟨p', mnew, cur', e, (0, 0), by rw [hpb]; exact hb, fun _ => rfl, hu, htot, fun k v hv => ?_⟩
      obtain ⟨v', h1, h2⟩ := hrel k v hv
      exact ⟨v', h1, h2.mono hle⟩
    · obtain ⟨hj', hji⟩ := gold hn hj
      obtain ⟨q, h1, h2⟩ := hs.obj j o hj'
      have hne : q.block ≠ p.block := fun e' => hs.inj i j _ o p q hg rfl hj' (Ne.symm hji) hm h1 e'.symm
      exact ⟨q, by rw [mold hn]; exact h1, (h2.heap (hother _ hne)).mono hle⟩
  · intro a b o o' p1 p2 ha how hb' hne hma hmb
    by_cases han : a = A.next
    · subst han
      rw [mnew] at hma
      simp only [Option.some.injEq] at hma
      subst hma
      obtain ⟨hb1, hbi⟩ := gold (Ne.symm hne) hb'
      rw [mold (Ne.symm hne)] at hmb
      rw [hpb]
      exact hs.inj i b _ o' p p2 hg rfl hb1 (Ne.symm hbi) hm hmb
    · obtain ⟨ha1, hai⟩ := gold han ha
      rw [mold han] at hma
      by_cases hbn : b = A.next
      · subst hbn
        rw [mnew] at hmb
        simp only [Option.some.injEq] at hmb
        subst hmb
        rw [hpb]
        exact hs.inj a i o _ p1 p ha1 how hg hai hma hm
      · obtain ⟨hb1, _⟩ := gold hbn hb'
        rw [mold hbn] at hmb
        exact hs.inj a b o o' p1 p2 ha1 how hb1 hne hma hmb
  · intro j hj
    have : j ≠ A.next := by simp [AW.alloc, AW.set] at hj; omega
    rw [mold this]
    exact hs.fresh j (by simp [AW.alloc, AW.set] at hj; omega)
  · intro j hj
    have h0 : A.next + 1 ≤ j := by simpa [AW.alloc, AW.set] using hj
    have h1 : j ≠ A.next := by omega
    cases hx : ((A.set i none).alloc (.cells cs' true unit)).get j with
    | none => rfl
    | some o =>
      have := (gold h1 hx).1
      rw [hs.low j (by omega)] at this
      cases this
  · intro b' _ ho'
    refine hother b' (fun e' => ho' ?_)
    subst e'
    exact ⟨i, _, p, hg, rfl, hm, rfl⟩
  · rintro b ⟨j, o, q, hj, how, hmj, hbj⟩
    by_cases hn : j = A.next
    · subst hn
      rw [mnew] at hmj
      simp only [Option.some.injEq] at hmj
      subst hmj
      exact .inl ⟨i, _, p, hg, rfl, hm, by rw [← hpb]; exact hbj⟩
    · obtain ⟨hj', _⟩ := gold hn hj
      rw [mold hn] at hmj
      exact .inl ⟨j, o, q, hj', how, hmj, hbj⟩
  · rintro b ⟨j, o, q, hj, hmj, hbj⟩
    by_cases hn : j = A.next
    · subst hn
      rw [mnew] at hmj
      simp only [Option.some.injEq] at hmj
      subst hmj
      exact .inl ⟨i, _, p, hg, hm, by rw [← hpb]; exact hbj⟩
    · obtain ⟨hj', _⟩ := gold hn hj
      rw [mold hn] at hmj
      exact .inl ⟨j, o, q, hj', hmj, hbj⟩

theorem take_drop_get (cs : List Value) (o n : Nat) (j : Nat) (v : Value) (h : ((cs.drop o).take n)[j]? = some v) : cs[o + j]? = some v ∧ j < n := by
  rw [List.getElem?_take] at h
  split at h
  · rename_i hj
    rw [List.getElem?_drop] at h
    exact ⟨h, hj⟩
  · cases h

/-- What a list of abstract values in a row is in the world. -/
theorem row_conc {m : Mp} {A : AW} {w : World} (hs : Sim m A w) {a a' : Addr} (ha : ARel m a a') {cs : List Value} (hr : A.row a.block = some cs) (n : Nat) (hn : a.off + n ≤ cs.length) :
    ∃ l', l'.length = n ∧ LRel m ((cs.drop a.off).take n) l' ∧ ∀ (j : Nat) (v : Value), l'[j]? = some v → w.cell? (a'.add j) = some v := by
  have h : ∀ j, j < n → ∃ v', w.cell? (a'.add j) = some v' ∧ VRel m (cs.getD (a.off + j) undef) v' := fun j hj =>
    cell_rel hs ha hr (by rw [List.getD_eq_getElem?_getD, List.getElem?_eq_getElem (by omega)]; rfl)
  refine ⟨(List.range n).map fun j => (w.cell? (a'.add j)).getD undef, by simp, ⟨by simp; omega, ?_⟩, ?_⟩
  · intro i v v' h1 h2
    obtain ⟨h3, hi⟩ := take_drop_get _ _ _ _ _ h1
    obtain ⟨v1, h4, h5⟩ := h i hi
    rw [List.getD_eq_getElem?_getD, h3] at h5
    simp [hi, h4] at h2
    subst h2
    exact h5
  · intro j v hv
    have hj : j < n := by
      have := (List.getElem?_eq_some_iff.1 hv).1
      simpa using this
    obtain ⟨v1, h4, _⟩ := h j hj
    simp [hj, h4] at hv
    subst hv
    exact h4

/-- The elements that an append adds: how many, and their cells. -/
def appNews (A : AW) (size : Nat) (x : Value) : Option (Nat × List Value) :=
  match x with
  | .slice none 0 0 => some (0, [])
  | .slice (some b) n _ =>
    if n = 0 then some (0, []) else
    match A.row b.block with
    | some cs => if b.off + n * size ≤ cs.length then some (n, (cs.drop b.off).take (n * size)) else none
    | none => none
  | _ => none

def appOlds (A : AW) (size : Nat) (s : Value) : Option (Option Addr × Nat × List Value) :=
  match s with
  | .slice none 0 0 => some (none, 0, [])
  | .slice (some a) n c =>
    if a.spot.isSome ∧ c = 0 ∧ n = 0 then some (none, 0, []) else
    match A.get a.block with
    | some (.cells cs true unit) => if unit = size ∧ a.off + n * size ≤ cs.length then some (some a, n, (cs.drop a.off).take (n * size)) else none
    | _ => none
  | _ => none

/-- append(s, x...). -/
def aappend (P : Program) (A : AW) (t u : TypeId) (s x : Value) : Option (Value × AW) :=
  match P.underlying t with
  | some (.slice e) =>
    match P.info? e with
    | some i =>
      match i.zero with
      | some z =>
        if z.cells.size = i.size ∧ 0 < i.size ∧ t = u then
          match appNews A i.size x, appOlds A i.size s with
          | some (n, news), some (base, k, olds) =>
            if n = 0 then some (s, A)
            else if k + n ≤ 140737488355328 ∧ (k + n) * i.bytes ≤ 140737488355328 ∧ news.all Value.oneCell' then
              some (.slice (some ⟨A.next, 0, none⟩) (k + n) (k + n),
                ((match base with | some a => A.set a.block none | none => A)).alloc (.cells (olds ++ news) true i.size))
            else none
          | _, _ => none
        else none
      | none => none
    | none => none
  | _ => none

/-- What the model does at an append of no element. -/
theorem run_append_zero {P : Program} (w : World) (t ty e : TypeId) (i : TypeInfo) (ht : P.underlying t = some (.slice e)) (hi : P.info? e = some i)
    (base : Option Addr) (n c : Nat) (hc : n ≤ c) (xb : Option Addr) (xc : Nat) :
    (Builtin.append_ #[t, t] ty #[.slice base n c, .slice xb 0 xc]).run P w = .ok (.slice base n c) w := by
  cases base <;> cases xb <;> simp [Builtin.append_, run_underlying ht, sizeOf, typeInfo, hi, Builtin.lenOf, hc, Builtin.firstCells, loadCells, loadCellsFrom, storeCells]

theorem appNews_conc {m : Mp} {A : AW} {w : World} (hs : Sim m A w) {size n : Nat} {x x' : Value} {news : List Value} (h : appNews A size x = some (n, news)) (hx : VRel m x x') :
    (n = 0 ∧ ∃ xb xc, x' = .slice xb 0 xc) ∨
    (∃ a c l', x' = .slice (some a) n c ∧ l'.length = n * size ∧ LRel m news l' ∧ ∀ (j : Nat) (v : Value), l'[j]? = some v → w.cell? (a.add j) = some v) := by
  unfold appNews at h
  split at h
  · simp only [Option.some.injEq, Prod.mk.injEq] at h
    obtain ⟨rfl, rfl⟩ := h
    cases hx
    exact .inl ⟨rfl, _, _, rfl⟩
  · rename_i b k c
    split at h
    · rename_i h0
      simp only [Option.some.injEq, Prod.mk.injEq] at h
      obtain ⟨rfl, rfl⟩ := h
      subst h0
      cases hx
      exact .inl ⟨rfl, _, _, rfl⟩
    · rename_i h0
      split at h
      · rename_i cs hr
        split at h
        · rename_i hle
          simp only [Option.some.injEq, Prod.mk.injEq] at h
          obtain ⟨rfl, rfl⟩ := h
          cases hx with
          | slice hh h1 h2 =>
            rename_i a' cap'
            have ha : ARel m b a' := by
              rcases hh with hh | hh
              · exact hh.arel
              · exact absurd hh.1 h0
            obtain ⟨l', e1, e2, e3⟩ := row_conc hs ha hr (k * size) hle
            exact .inr ⟨a', cap', l', rfl, e1, e2, e3⟩
        · cases h
      · cases h
  · cases h

theorem LRel.one {m : Mp} {l l' : List Value} (h : LRel m l l') (h1 : ∀ v ∈ l, v.oneCell' = true) : ∀ v ∈ l', v.oneCell' = true := by
  intro v hv
  obtain ⟨i, hi⟩ := List.getElem?_of_mem hv
  have hlt := (List.getElem?_eq_some_iff.1 hi).1
  rw [← h.1] at hlt
  have e := List.getElem?_eq_getElem hlt
  rw [(h.2 i _ v e hi).oneCell]
  exact h1 _ (List.getElem_mem hlt)

/-- There is room behind the slice's end. -/
theorem run_append_room_at {P : Program} (w : World) (t ty e : TypeId) (i : TypeInfo) (ht : P.underlying t = some (.slice e)) (hi : P.info? e = some i)
    (g o sLen sCap : Nat) (cur : Array Value) (e' : TypeId) (hg : w.heap[g]? = some (.cells cur e' (0, 0)))
    (a : Addr) (m c : Nat) (news : List Value) (hl : news.length = m * i.size) (hnews : ∀ j u, news[j]? = some u → w.cell? (a.add j) = some u) (h1 : ∀ u ∈ news, u.oneCell' = true)
    (hroom : sLen + m ≤ sCap) (hfit : o + sLen * i.size + news.length ≤ cur.size) :
    (Builtin.append_ #[t, t] ty #[.slice (some ⟨g, o, none⟩) sLen sCap, .slice (some a) m c]).run P w =
      .ok (.slice (some ⟨g, o, none⟩) (sLen + m) sCap) (w.setRow g (cur.toList.take (o + sLen * i.size) ++ news ++ cur.toList.drop (o + sLen * i.size + news.length)).toArray) := by
  have hf := run_firstCells_some (P := P) w i.size m a m c news hl hnews
  have hst := run_storeCells_at P g (o + sLen * i.size) e' news 0 cur w hg (by simpa using hfit) h1
  simp only [Nat.add_zero] at hst
  have ea : (⟨g, o, none⟩ : Addr).add (sLen * i.size) = ⟨g, o + sLen * i.size, none⟩ := addr_add _ _ rfl
  simp [Builtin.append_, run_underlying ht, sizeOf, typeInfo, hi, Builtin.lenOf, hroom, hf, ea, hst]

/-- An append that adds cells, whatever they come from: the old array is given up for a new abstract block. -/
theorem append_core {P : Program} {m : Mp} {A : AW} {w : World} (hs : Sim m A w) {ty e : TypeId} {i : TypeInfo} {z : Value} {ts : Array TypeId} {X : Value} {s s' : Value} {n k : Nat} {news l' olds : List Value} {base : Option Addr}
    (hzs : z.cells.size = i.size)
    (hn0 : ¬ n = 0) (hb1 : k + n ≤ 140737488355328) (hb2 : (k + n) * i.bytes ≤ 140737488355328) (hone : ∀ v ∈ news, v.oneCell' = true) (hl : l'.length = n * i.size) (hlr : LRel m news l')
    (ho : appOlds A i.size s = some (base, k, olds)) (hvs : VRel m s s')
    (Hnil : ∀ k', k' = 0 → k = 0 → (Builtin.append_ ts ty #[.slice none 0 0, X]).run P w = .ok (.slice (some ⟨w.heap.size, 0, none⟩) n (grownCap w n 0 e)) (w.drew.alloc (.cells (l'.toArray ++ Builtin.zeroCells z.cells (grownCap w n 0 e - n)) e)))
    (Hgrow : ∀ (b : Addr) (sLen sCap : Nat) (olds : List Value), sLen = k → olds.length = sLen * i.size → (∀ (j : Nat) (v : Value), olds[j]? = some v → w.cell? (b.add j) = some v) → sCap < sLen + n →
      (Builtin.append_ ts ty #[.slice (some b) sLen sCap, X]).run P w = .ok (.slice (some ⟨w.heap.size, 0, none⟩) (sLen + n) (grownCap w (sLen + n) sCap e))
        (w.drew.alloc (.cells (olds.toArray ++ l'.toArray ++ Builtin.zeroCells z.cells (grownCap w (sLen + n) sCap e - (sLen + n))) e)))
    (Hroom : ∀ (g o sLen sCap : Nat) (cur : Array Value) (e' : TypeId), w.heap[g]? = some (.cells cur e' (0, 0)) → sLen + n ≤ sCap → o + sLen * i.size + l'.length ≤ cur.size →
      (Builtin.append_ ts ty #[.slice (some ⟨g, o, none⟩) sLen sCap, X]).run P w = .ok (.slice (some ⟨g, o, none⟩) (sLen + n) sCap)
        (w.setRow g (cur.toList.take (o + sLen * i.size) ++ l' ++ cur.toList.drop (o + sLen * i.size + l'.length)).toArray)) :
    ∃ v' w' m', (Builtin.append_ ts ty #[s', X]).run P w = .ok v' w' ∧
      Evo m A w m' ((match base with | some a => A.set a.block none | none => A).alloc (.cells (olds ++ news) true i.size)) w' ∧ VRel m' (.slice (some ⟨A.next, 0, none⟩) (k + n) (k + n)) v' := by
  have hone' := hlr.one hone
  -- what the grown array is, whatever capacity is drawn
  have grown : ∀ (old : Nat) (A0 : AW) (hs0 : Sim m A0 w) (hn0 : A0.next = A.next) (lo : List Value) (hlo : LRel m olds lo) (hlen : lo.length = k * i.size),
      Evo m A0 w (m.ext A.next ⟨w.heap.size, 0, i.size, (lo.toArray ++ l'.toArray ++ Builtin.zeroCells z.cells (grownCap w (k + n) old e - (k + n))).size⟩)
          (A0.alloc (.cells (olds ++ news) true i.size)) (w.drew.alloc (.cells (lo.toArray ++ l'.toArray ++ Builtin.zeroCells z.cells (grownCap w (k + n) old e - (k + n))) e)) ∧
        VRel (m.ext A.next ⟨w.heap.size, 0, i.size, (lo.toArray ++ l'.toArray ++ Builtin.zeroCells z.cells (grownCap w (k + n) old e - (k + n))).size⟩)
          (.slice (some ⟨A.next, 0, none⟩) (k + n) (k + n)) (.slice (some ⟨w.heap.size, 0, none⟩) (k + n) (grownCap w (k + n) old e)) := by
    intro old A0 hs0 hnx lo hlo hlen
    have hge := grownCap_ge w (k + n) old e
    constructor
    · have hs1 : Sim m A0 w.drew := hs0.of_heap rfl
      have ev := Evo.alloc hs1 (olds ++ news) (lo.toArray ++ l'.toArray ++ Builtin.zeroCells z.cells (grownCap w (k + n) old e - (k + n))) e i.size (fun j v hv => by
        obtain ⟨v', h1, h2⟩ := (hlo.append hlr).get hv
        refine ⟨v', ?_, h2⟩
        have hlt := (List.getElem?_eq_some_iff.1 h1).1
        rw [Array.getElem?_append_left (by simpa using hlt)]
        simpa using h1)
      rw [hnx] at ev
      exact (Evo.drew hs0).trans ev
    · refine .slice (.inl ⟨rfl, rfl, ⟨w.heap.size, 0, i.size, (lo.toArray ++ l'.toArray ++ Builtin.zeroCells z.cells (grownCap w (k + n) old e - (k + n))).size⟩, if_pos rfl, rfl, rfl, ?_⟩) (Nat.le_refl _) hge
      simp only [Array.size_append, List.size_toArray, size_zeroCells, hlen, hl, hzs, ← Nat.add_mul]
      rw [show k + n + (grownCap w (k + n) old e - (k + n)) = grownCap w (k + n) old e by omega]
      omega
  unfold appOlds at ho
  split at ho
  · -- the nil slice
    simp only [Option.some.injEq, Prod.mk.injEq] at ho
    obtain ⟨rfl, rfl, rfl⟩ := ho
    cases hvs
    have hr := Hnil 0 rfl rfl
    obtain ⟨g1, g2⟩ := grown 0 A hs rfl [] LRel.nil (by simp)
    simp only [Nat.zero_add, List.nil_append, Array.empty_append] at g1 g2 ⊢
    exact ⟨_, _, _, hr, g1, g2⟩
  · rename_i sa k0 c0
    split at ho
    · -- a slice whose capacity is known to be none
      rename_i hx0
      obtain ⟨hx1, hx2, hx3⟩ := hx0
      subst hx2; subst hx3
      simp only [Option.some.injEq, Prod.mk.injEq] at ho
      obtain ⟨rfl, rfl, rfl⟩ := ho
      cases hvs with
      | slice hh h1 h2 =>
        rename_i a' cap'
        have hcap : cap' = 0 := by
          rcases hh with hh | hh
          · have h9 := hh.1
            rw [h9] at hx1
            cases hx1
          · exact hh.2.1
        subst hcap
        have hr := Hgrow a' 0 0 [] rfl (by simp) (fun j u h => by simp at h) (by omega)
        obtain ⟨g1, g2⟩ := grown 0 A hs rfl [] LRel.nil (by simp)
        simp only [Nat.zero_add, List.nil_append, Array.empty_append] at g1 g2 hr ⊢
        exact ⟨_, _, _, hr, g1, g2⟩
    split at ho <;> try (cases ho; done)
    rename_i cs unit hg
    split at ho <;> try (cases ho; done)
    rename_i hc2
    obtain ⟨rfl, hfit⟩ := hc2
    simp only [Option.some.injEq, Prod.mk.injEq] at ho
    obtain ⟨rfl, rfl, rfl⟩ := ho
    cases hvs with
    | slice hh h1 h2 =>
      rename_i a' cap'
      have hrow : A.row sa.block = some cs := by unfold AW.row; rw [hg]
      -- the old elements in the world
      have holds : ∃ lo, lo.length = k0 * i.size ∧ LRel m ((cs.drop sa.off).take (k0 * i.size)) lo ∧ ∀ (j : Nat) (v : Value), lo[j]? = some v → w.cell? (a'.add j) = some v := by
        rcases hh with hh | ⟨rfl, _⟩
        · exact row_conc hs hh.arel hrow (k0 * i.size) hfit
        · exact ⟨[], by simp, by simp [LRel.nil], by simp⟩
      obtain ⟨lo, hlo1, hlo2, hlo3⟩ := holds
      by_cases hroom : k0 + n ≤ cap'
      · -- there is room
        have hh' : SRel m sa a' cap' := by
          rcases hh with hh | ⟨_, hc0⟩
          · exact hh
          · omega
        obtain ⟨hsp, hsp', p, hm, hpb, hpo, hpt⟩ := hh'
        obtain ⟨p', hm', cur, e', fr, hw, hfr, hpu, htot, hcells⟩ := hs.obj _ _ hg
        rw [hm] at hm'
        simp only [Option.some.injEq] at hm'
        subst hm'
        obtain rfl := hfr rfl
        obtain ⟨sb, so, ss⟩ := a'
        simp only at hpb hpo hpt hsp'
        subst hsp'
        have hfit2 : so + k0 * i.size + l'.length ≤ cur.size := by
          rw [htot, hl, Nat.add_assoc, ← Nat.add_mul]
          have := Nat.mul_le_mul_right i.size hroom
          rw [← hpu] at hpt
          omega
        have hw' : w.heap[sb]? = some (.cells cur e' (0, 0)) := by rw [hpb]; exact hw
        have hr := Hroom sb so k0 cap' cur e' hw' hroom hfit2
        have hcz : (cur.toList.take (so + k0 * i.size) ++ l' ++ cur.toList.drop (so + k0 * i.size + l'.length)).length = cur.size := by
          simp only [List.length_append, List.length_take, List.length_drop, Array.length_toList]
          omega
        refine ⟨_, _, m.ext A.next ⟨p.block, so, i.size, p.total⟩, hr, ?_, ?_⟩
        · refine Evo.adopt hs (p' := ⟨p.block, so, i.size, p.total⟩) (e := e') hg hm rfl rfl (by simp) rfl rfl rfl
            (cur' := (cur.toList.take (so + k0 * i.size) ++ l' ++ cur.toList.drop (so + k0 * i.size + l'.length)).toArray) ?_ ?_ ?_ ?_
          · rw [← hpb]; exact setRow_heap w sb cur _ e' _ hw'
          · simpa [htot] using hcz
          · intro j hj
            exact setRow_other w sb j _ (by rw [hpb]; exact hj)
          · intro j v hv
            rw [List.getElem?_append] at hv
            simp only [List.length_take, List.length_drop] at hv
            have e1 : min (k0 * i.size) (cs.length - sa.off) = k0 * i.size := by omega
            rw [e1] at hv
            by_cases hj : j < k0 * i.size
            · rw [if_pos hj] at hv
              obtain ⟨h3, _⟩ := take_drop_get _ _ _ _ _ hv
              obtain ⟨v', h4, h5⟩ := hcells _ _ h3
              refine ⟨v', ?_, h5⟩
              have hlt := (Array.getElem?_eq_some_iff.1 h4).1
              simp only [List.getElem?_toArray, List.append_assoc]
              rw [List.getElem?_append_left (by simp; omega), List.getElem?_take_of_lt (by omega), Array.getElem?_toList, hpo, Nat.add_assoc]
              exact h4
            · rw [if_neg hj] at hv
              obtain ⟨v', h4, h5⟩ := hlr.get hv
              refine ⟨v', ?_, h5⟩
              have hlt := (List.getElem?_eq_some_iff.1 h4).1
              simp only [List.getElem?_toArray, List.append_assoc]
              have e2 : (cur.toList.take (so + k0 * i.size)).length = so + k0 * i.size := by simp; omega
              rw [List.getElem?_append_right (by omega), e2, List.getElem?_append_left (by omega)]
              rw [show so + j - (so + k0 * i.size) = j - k0 * i.size by omega]
              exact h4
        · refine .slice (.inl ⟨rfl, rfl, ⟨p.block, so, i.size, p.total⟩, by simp [Mp.ext], hpb, rfl, ?_⟩) (Nat.le_refl _) hroom
          simpa [hpu] using hpt
      · -- the array grows
        have hr := Hgrow a' k0 cap' lo rfl hlo1 hlo3 (by omega)
        have ek := Evo.kill hs sa.block
        obtain ⟨g1, g2⟩ := grown cap' (A.set sa.block none) ek.sim rfl lo hlo2 hlo1
        exact ⟨_, _, _, hr, ek.trans g1, g2⟩
  · cases ho


theorem append_sound {P : Program} {m : Mp} {A A1 : AW} {w : World} (hs : Sim m A w) {t u ty : TypeId} {s x s' x' v : Value} (h : aappend P A t u s x = some (v, A1))
    (hvs : VRel m s s') (hvx : VRel m x x') :
    ∃ v' w' m', (Builtin.append_ #[t, u] ty #[s', x']).run P w = .ok v' w' ∧ Evo m A w m' A1 w' ∧ VRel m' v v' := by
  unfold aappend at h
  split at h <;> try (cases h; done)
  rename_i e hu
  split at h <;> try (cases h; done)
  rename_i i hi
  split at h <;> try (cases h; done)
  rename_i z hz
  split at h <;> try (cases h; done)
  rename_i hcond
  obtain ⟨hzs, hsz, rfl⟩ := hcond
  split at h <;> try (cases h; done)
  rename_i n news base k olds hn ho
  have hnews := appNews_conc hs hn hvx
  by_cases hn0 : n = 0
  · -- nothing is added
    subst hn0
    rw [if_pos rfl] at h
    simp only [Option.some.injEq, Prod.mk.injEq] at h
    obtain ⟨rfl, rfl⟩ := h
    have hx0 : ∃ xb xc, x' = .slice xb 0 xc := by
      rcases hnews with ⟨_, h1⟩ | ⟨a, c, l', h1, _⟩
      · exact h1
      · exact ⟨_, _, h1⟩
    obtain ⟨xb, xc, rfl⟩ := hx0
    have hs0 : ∃ b' n' c', s' = .slice b' n' c' ∧ n' ≤ c' := by
      unfold appOlds at ho
      split at ho
      · cases hvs; exact ⟨_, _, _, rfl, Nat.le_refl _⟩
      · cases hvs with
        | slice _ h1 h2 => exact ⟨_, _, _, rfl, Nat.le_trans h1 h2⟩
      · cases ho
    obtain ⟨b', n', c', rfl, hle⟩ := hs0
    exact ⟨_, w, m, run_append_zero w t ty e i hu hi b' n' c' hle xb xc, Evo.refl hs, hvs⟩
  · rw [if_neg hn0] at h
    split at h
    case isFalse => cases h
    rename_i hb
    obtain ⟨hb1, hb2, hb3⟩ := hb
    simp only [Option.some.injEq, Prod.mk.injEq] at h
    obtain ⟨rfl, rfl⟩ := h
    rcases hnews with ⟨h0, _⟩ | ⟨a, c, l', rfl, hl, hlr, hlc⟩
    · exact absurd h0 hn0
    have hone : ∀ v ∈ news, v.oneCell' = true := by simpa using hb3
    have hone' := hlr.one hone
    refine append_core hs (e := e) (i := i) (z := z) hzs hn0 hb1 hb2 hone hl hlr ho hvs
      (fun _ _ hk => run_append_nil (P := P) w t ty e i z hu hi hz a n c l' hl hlc (by omega) (by omega) (by subst hk; simp only [Nat.zero_add] at hb2; omega))
      (fun b sLen sCap lo hk h1 h2 h3 => run_append_grow (P := P) w t ty e i z hu hi hz b sLen sCap lo h1 h2 a n c l' hl hlc h3 (by omega) (growslice_fits h3 (by subst hk; exact hb2)))
      (fun g o sLen sCap cur e' h1 h2 h3 => run_append_room_at (P := P) w t ty e i hu hi g o sLen sCap cur e' h1 a n c l' hl hlc hone' h2 h3)

end Go.Stx

namespace Go.Stx
open Go
variable [Gl]
set_option linter.unusedSectionVars false

/-! ### Integers -/

def aint (op : BinOp) (k : IntKind) (x y : Int) : Option Value :=
  match op with
  | .add => some (.int k (k.wrap (x + y)))
  | .sub => some (.int k (k.wrap (x - y)))
  | .mul => some (.int k (k.wrap (x * y)))
  | .quo => if y = 0 then none else some (.int k (k.wrap (x.tdiv y)))
  | .rem => if y = 0 then none else some (.int k (x.tmod y))
  | .eql => some (.bool (decide (x = y)))
  | .neq => some (.bool (!decide (x = y)))
  | .lss => some (.bool (decide (x < y)))
  | .leq => some (.bool (decide (x ≤ y)))
  | .gtr => some (.bool (decide (y < x)))
  | .geq => some (.bool (decide (y ≤ x)))
  | .and => some (.int k (k.wrap (BitVec.ofInt k.bits x &&& BitVec.ofInt k.bits y).toNat))
  | .or => some (.int k (k.wrap (BitVec.ofInt k.bits x ||| BitVec.ofInt k.bits y).toNat))
  | .xor => some (.int k (k.wrap (BitVec.ofInt k.bits x ^^^ BitVec.ofInt k.bits y).toNat))
  | .andNot => some (.int k (k.wrap (BitVec.ofInt k.bits x &&& ~~~BitVec.ofInt k.bits y).toNat))
  | _ => none

def ashift (op : BinOp) (k : IntKind) (x y : Int) : Option Value :=
  if y < 0 then none else
  match op with
  | .shl => some (.int k (k.wrap (x * 2 ^ (min y.toNat k.bits))))
  | .shr => some (.int k (x.fdiv (2 ^ (min y.toNat k.bits))))
  | _ => none

def isShift : BinOp → Bool
  | .shl | .shr => true
  | _ => false

def abin (P : Program) (op : BinOp) (t : TypeId) (x y : Value) : Option Value :=
  match x, y with
  | .int k a, .int k' b => if isShift op then ashift op k a b else if k = k' then aint op k a b else none
  | .string a, .string b =>
    match op with
    | .eql => some (.bool (a.toList == b.toList))
    | .neq => some (.bool (!(a.toList == b.toList)))
    | .add => if a.size + b.size ≤ 9223372036854775807 then some (.string (a ++ b)) else none
    | _ => none
  | .bool a, .bool b =>
    match op, P.underlying t with
    | .eql, some .bool => some (.bool (a == b))
    | .neq, some .bool => some (.bool (!(a == b)))
    | _, _ => none
  | .pointer a, .pointer b =>
    if a.isSome && b.isSome then none else
    match op, P.underlying t with
    | .eql, some (.pointer _) => some (.bool (a.isNone && b.isNone))
    | .neq, some (.pointer _) => some (.bool (!(a.isNone && b.isNone)))
    | _, _ => none
  | _, _ => none

theorem run_aint {P : Program} {op : BinOp} {k : IntKind} {a b : Int} {t : TypeId} {v : Value} (h0 : isShift op = false) (h : aint op k a b = some v) (w : World) :
    (binOp op t (.int k a) (.int k b)).run P w = .ok v w := by
  cases op
  case add => injection h with h; subst h; simp [binOp, Op.intArith]
  case sub => injection h with h; subst h; simp [binOp, Op.intArith]
  case mul => injection h with h; subst h; simp [binOp, Op.intArith]
  case quo =>
    by_cases hb : b = 0
    · simp [aint, hb] at h
    · simp [aint, hb] at h; subst h; simp [binOp, Op.intDiv, hb]
  case rem =>
    by_cases hb : b = 0
    · simp [aint, hb] at h
    · simp [aint, hb] at h; subst h; simp [binOp, Op.intDiv, hb]
  case and => injection h with h; subst h; simp [binOp, Op.intBits]
  case or => injection h with h; subst h; simp [binOp, Op.intBits]
  case xor => injection h with h; subst h; simp [binOp, Op.intBits]
  case andNot => injection h with h; subst h; simp [binOp, Op.intBits]
  case shl => cases h0
  case shr => cases h0
  case eql => injection h with h; subst h; simp [binOp, Op.intCmp]; rfl
  case neq => injection h with h; subst h; simp [binOp, Op.intCmp]; rfl
  case lss => injection h with h; subst h; simp [binOp, Op.intCmp]
  case leq => injection h with h; subst h; simp [binOp, Op.intCmp]
  case gtr => injection h with h; subst h; simp [binOp, Op.intCmp]
  case geq => injection h with h; subst h; simp [binOp, Op.intCmp]

theorem run_ashift {P : Program} {op : BinOp} {k k' : IntKind} {a b : Int} {t : TypeId} {v : Value} (h : ashift op k a b = some v) (w : World) :
    (binOp op t (.int k a) (.int k' b)).run P w = .ok v w := by
  by_cases hb : b < 0
  · simp [ashift, hb] at h
  · cases op
    case shl => simp [ashift, hb] at h; subst h; simp [binOp, Op.shift, hb]
    case shr => simp [ashift, hb] at h; subst h; simp [binOp, Op.shift, hb]
    all_goals simp [ashift] at h

theorem aint_scalar {op : BinOp} {k : IntKind} {a b : Int} {v : Value} (h : aint op k a b = some v) (m : Mp) : VRel m v v := by
  cases op
  case quo =>
    by_cases hb : b = 0
    · simp [aint, hb] at h
    · simp [aint, hb] at h; subst h; constructor
  case rem =>
    by_cases hb : b = 0
    · simp [aint, hb] at h
    · simp [aint, hb] at h; subst h; constructor
  case shl => cases h
  case shr => cases h
  all_goals (injection h with h; subst h; constructor)

theorem ashift_scalar {op : BinOp} {k : IntKind} {a b : Int} {v : Value} (h : ashift op k a b = some v) (m : Mp) : VRel m v v := by
  by_cases hb : b < 0
  · simp [ashift, hb] at h
  · cases op
    case shl => simp [ashift, hb] at h; subst h; constructor
    case shr => simp [ashift, hb] at h; subst h; constructor
    all_goals simp [ashift] at h

theorem run_equalIn_bool {P : Program} {t : TypeId} (d : Nat) (a b : Bool) (hu : P.underlying t = some .bool) (w : World) :
    (Op.equalIn (d + 1) t (.bool a) (.bool b)).run P w = .ok (a == b) w := by
  simp [Op.equalIn, run_underlying hu]
theorem run_equalIn_ptr_nil {P : Program} {t e : TypeId} (d : Nat) (b : Option Addr) (hu : P.underlying t = some (.pointer e)) (w : World) :
    (Op.equalIn (d + 1) t (.pointer none) (.pointer b)).run P w = .ok b.isNone w := by
  simp [Op.equalIn, run_underlying hu]
theorem run_equalIn_nil_ptr {P : Program} {t e : TypeId} (d : Nat) (a : Addr) (hu : P.underlying t = some (.pointer e)) (w : World) :
    (Op.equalIn (d + 1) t (.pointer (some a)) (.pointer none)).run P w = .ok false w := by
  simp [Op.equalIn, run_underlying hu]
theorem run_eql_of {P : Program} {t : TypeId} {x y : Value} {r : Bool} {w : World} (h : (Op.equalIn (9999 + 1) t x y).run P w = .ok r w) : (Op.equal t x y).run P w = .ok r w := h

theorem run_eqGuard_int {P : Program} (op : BinOp) (t : TypeId) (xo yo : Operand) (k k' : IntKind) (a b : Int) (w : World) :
    (eqGuard op t xo yo (.int k a) (.int k' b)).run P w = .ok () w := by
  cases op <;> simp [eqGuard]

theorem abin_sound {P : Program} {op : BinOp} {t : TypeId} {x y v : Value} (h : abin P op t x y = some v) {m : Mp} {x' y' : Value} (hx : VRel m x x') (hy : VRel m y y') (xo yo : Operand) (w : World) :
    (do eqGuard op t xo yo x' y'; binOp op t x' y' : Sem Value).run P w = .ok v w ∧ VRel m v v := by
  unfold abin at h
  split at h
  · -- integers
    cases hx; cases hy
    rw [Sem.run_bind, run_eqGuard_int, Result.andThen_ok]
    split at h
    · exact ⟨run_ashift h w, ashift_scalar h m⟩
    · rename_i hs
      split at h
      · rename_i hk
        subst hk
        exact ⟨run_aint (by simpa using hs) h w, aint_scalar h m⟩
      · cases h
  · -- strings
    cases hx; cases hy
    cases op
    case eql => injection h with h; subst h; exact ⟨by simp [eqGuard, binOp, Op.stringOp], by constructor⟩
    case neq => injection h with h; subst h; exact ⟨by simp [eqGuard, binOp, Op.stringOp], by constructor⟩
    case add =>
      rename_i a b
      replace h : (if a.size + b.size ≤ 9223372036854775807 then some (Value.string (a ++ b)) else none) = some v := h
      by_cases hle : a.size + b.size ≤ 9223372036854775807
      · rw [if_pos hle] at h
        injection h with h; subst h
        refine ⟨?_, by constructor⟩
        have : ¬ (((a.size + b.size : Nat) : Int) > IntKind.i64.max) := by
          have e : IntKind.i64.max = 9223372036854775807 := rfl
          rw [e]; omega
        simp only [eqGuard, binOp, Op.stringOp, if_neg this]
        rfl
      · rw [if_neg hle] at h; cases h
    all_goals cases h
  · -- truth values
    cases hx; cases hy
    split at h
    · rename_i hu; injection h with h; subst h; exact ⟨by simp [eqGuard, binOp, run_eql_of (run_equalIn_bool _ _ _ hu w)], by constructor⟩
    · rename_i hu; injection h with h; subst h; exact ⟨by simp [eqGuard, binOp, run_eql_of (run_equalIn_bool _ _ _ hu w)], by constructor⟩
    · cases h
  · -- pointers
    rename_i a b
    cases a with
    | none =>
      cases hx
      cases b with
      | none =>
        cases hy
        simp only [Option.isSome_none, Bool.false_eq_true, if_false, Bool.and_self] at h
        split at h
        · rename_i hu; injection h with h; subst h; exact ⟨by simp [eqGuard, binOp, run_eql_of (run_equalIn_ptr_nil _ _ hu w)], by constructor⟩
        · rename_i hu; injection h with h; subst h; exact ⟨by simp [eqGuard, binOp, run_eql_of (run_equalIn_ptr_nil _ _ hu w)], by constructor⟩
        · cases h
      | some b =>
        cases hy
        simp only [Option.isSome_none, Bool.false_and, Bool.false_eq_true, if_false] at h
        split at h
        · rename_i hu; injection h with h; subst h; exact ⟨by simp [eqGuard, binOp, run_eql_of (run_equalIn_ptr_nil _ _ hu w)], by constructor⟩
        · rename_i hu; injection h with h; subst h; exact ⟨by simp [eqGuard, binOp, run_eql_of (run_equalIn_ptr_nil _ _ hu w)], by constructor⟩
        · cases h
    | some a =>
      cases b with
      | some b => simp at h
      | none =>
        cases hx
        cases hy
        simp only [Option.isSome_none, Bool.and_false, Bool.false_eq_true, if_false] at h
        split at h
        · rename_i hu; injection h with h; subst h; exact ⟨by simp [eqGuard, binOp, run_eql_of (run_equalIn_nil_ptr _ _ hu w)], by constructor⟩
        · rename_i hu; injection h with h; subst h; exact ⟨by simp [eqGuard, binOp, run_eql_of (run_equalIn_nil_ptr _ _ hu w)], by constructor⟩
        · cases h
  · cases h

def aun (op : UnOp) (x : Value) : Option Value :=
  match op, x with
  | .not, .bool b => some (.bool !b)
  | .neg, .int k n => some (.int k (k.wrap (0 - n)))
  | .xor, .int k n => some (.int k (k.wrap (BitVec.ofInt k.bits (if k.signed then -1 else k.max) ^^^ BitVec.ofInt k.bits n).toNat))
  | _, _ => none

theorem aun_sound {P : Program} {op : UnOp} {x v : Value} (h : aun op x = some v) {m : Mp} {x' : Value} (hx : VRel m x x') (w : World) :
    (Op.unary op x').run P w = .ok v w ∧ VRel m v v := by
  unfold aun at h
  split at h
  · injection h with h; subst h; cases hx; exact ⟨by simp [Op.unary], by constructor⟩
  · injection h with h; subst h; cases hx; exact ⟨by simp [Op.unary, Op.intArith], by constructor⟩
  · injection h with h; subst h; cases hx; exact ⟨by simp [Op.unary, Op.intBits], by constructor⟩
  · cases h

def aconv (P : Program) (src dst : TypeId) (x : Value) : Option Value :=
  match P.underlying src, P.underlying dst, x with
  | some _, some (.int k), .int _ n => some (.int k (k.wrap n))
  | some _, some .string, .string s => some (.string s)
  | _, _, _ => none

theorem aconv_sound {P : Program} {src dst : TypeId} {x v : Value} (h : aconv P src dst x = some v) {m : Mp} {x' : Value} (hx : VRel m x x') (w : World) :
    (convert src dst x').run P w = .ok v w ∧ VRel m v v := by
  unfold aconv at h
  split at h
  · rename_i h1 h2; injection h with h; subst h; cases hx; exact ⟨by simp [convert, run_underlying h1, run_underlying h2, Conv.intToInt], by constructor⟩
  · rename_i h1 h2; injection h with h; subst h; cases hx; exact ⟨by simp [convert, run_underlying h1, run_underlying h2], by constructor⟩
  · cases h

end Go.Stx

namespace Go.Stx
open Go
variable [Gl]
set_option linter.unusedSectionVars false

def isAggT (P : Program) (t : TypeId) : Option Bool :=
  match P.underlying t with
  | some (.struct _) => some true
  | some (.array _ _) => some true
  | some _ => some false
  | none => none

theorem run_isAgg {P : Program} {t : TypeId} {b : Bool} (h : isAggT P t = some b) (w : World) : (isAgg t).run P w = .ok b w := by
  unfold isAggT at h
  cases hu : P.underlying t with
  | none => simp [hu] at h
  | some d =>
    rw [hu] at h
    simp only [isAgg, Sem.run_bind, run_underlying hu, Result.andThen_ok]
    cases d <;> simp only [Option.some.injEq] at h <;> subst h <;> rfl

theorem run_sizeOf {P : Program} {t : TypeId} {i : TypeInfo} (h : P.info? t = some i) (w : World) : (sizeOf t).run P w = .ok i.size w := by
  simp [sizeOf, typeInfo, h]

/-! ### Loads and stores of variables -/

def aload (P : Program) (A : AW) (t : TypeId) (p : Addr) : Option Value :=
  match A.row p.block, isAggT P t with
  | some cs, some false => cs[p.off]?
  | some cs, some true =>
    match P.info? t with
    | some i => if p.off + i.size ≤ cs.length then some (.agg ((cs.drop p.off).take i.size).toArray) else none
    | none => none
  | _, _ => none

theorem VRel.of_LRel_agg {m : Mp} {l l' : List Value} (h : LRel m l l') : VRel m (.agg l.toArray) (.agg l'.toArray) :=
  .agg (by simpa using h.1) fun i v v' a b => h.2 i v v' (by simpa using a) (by simpa using b)

theorem aload_sound {P : Program} {m : Mp} {A : AW} {w : World} (hs : Sim m A w) {t : TypeId} {p p' : Addr} {v : Value} (h : aload P A t p = some v) (hp : ARel m p p') :
    ∃ v', (loadVar t p').run P w = .ok v' w ∧ VRel m v v' := by
  unfold aload at h
  split at h
  · rename_i cs hr ha
    obtain ⟨v', h1, h2⟩ := load_rel (P := P) hs hp hr h
    exact ⟨v', by simp only [loadVar, Sem.run_bind, run_isAgg ha, Result.andThen_ok, Bool.false_eq_true, if_false, h1], h2⟩
  · rename_i cs hr ha
    split at h
    · rename_i i hi
      split at h
      · rename_i hle
        injection h with h
        subst h
        obtain ⟨l', h1, h2⟩ := loadCells_rel (P := P) hs hp hr i.size hle
        refine ⟨.agg l'.toArray, ?_, .of_LRel_agg h2⟩
        simp only [loadVar, Sem.run_bind, run_isAgg ha, Result.andThen_ok, if_true, run_sizeOf hi, h1, Sem.run_pure]
      · cases h
    · cases h
  · cases h

def astore (P : Program) (A : AW) (t : TypeId) (p : Addr) (v : Value) : Option AW :=
  match A.get p.block, P.info? t with
  | some (.cells cs true unit), some i =>
    if v.cells.size = i.size ∧ p.off + i.size ≤ cs.length ∧ v.cells.toList.all Value.oneCell' then
      some (A.set p.block (some (.cells (setCells cs p.off v.cells.toList) true unit)))
    else none
  | _, _ => none

theorem astore_sound {P : Program} {m : Mp} {A A1 : AW} {w : World} (hs : Sim m A w) {t : TypeId} {p p' : Addr} {v v' : Value} (h : astore P A t p v = some A1) (hp : ARel m p p') (hv : VRel m v v') :
    ∃ w', (storeVar t p' v').run P w = .ok () w' ∧ Evo m A w m A1 w' := by
  unfold astore at h
  split at h
  · rename_i cs unit i hg hi
    split at h
    · rename_i hc
      obtain ⟨h1, h2, h3⟩ := hc
      injection h with h
      subst h
      obtain ⟨hsp, hsp', q, hm, hb, ho⟩ := hp
      have hcl := hv.cells
      obtain ⟨w', hr, ev⟩ := storeCells_rel (P := P) (o := p.off) hm v.cells.toList v'.cells.toList 0 cs A w hs hg hcl (fun x hx => List.all_eq_true.1 h3 x hx) (by simp; omega)
      refine ⟨w', ?_, by simpa using ev⟩
      have hsz : v'.cells.size = i.size := by have := hcl.1; simp at this; omega
      have ea : p' = ⟨q.block, q.base + p.off, none⟩ := by rw [addr_eta p' hsp', hb, ho]
      subst ea
      simp only [storeVar, Sem.run_bind, run_sizeOf hi, Result.andThen_ok, hsz, ne_eq, not_true_eq_false, if_false, hr]
    · cases h
  · cases h

/-! ### New variables -/

theorem newRow_sound {P : Program} {m : Mp} {A : AW} {w : World} (hs : Sim m A w) (e : TypeId) (unit : Nat) {l : List Value} {cur : Array Value} (hl : LRel m l cur.toList) :
    ∃ w' m', (newRow e cur).run P w = .ok ⟨w.heap.size, 0, none⟩ w' ∧ Evo m A w m' (A.alloc (.cells l true unit)) w' ∧ m' = m.ext A.next ⟨w.heap.size, 0, unit, cur.size⟩ := by
  refine ⟨w.alloc (.cells cur e), _, ?_, Evo.alloc hs l cur e unit (fun k v hv => ?_), rfl⟩
  · simp only [newRow, Sem.run_bind, run_newObj, Result.andThen_ok, Sem.run_pure]; rfl
  · obtain ⟨v', h1, h2⟩ := hl.get hv
    exact ⟨v', by simpa using h1, h2⟩

def abox (A : AW) (v : Value) : Value × AW := (.pointer (some ⟨A.next, 0, none⟩), A.alloc (.cells v.cells.toList true 1))

theorem abox_sound {P : Program} {m : Mp} {A : AW} {w : World} (hs : Sim m A w) (e : TypeId) {v v' : Value} (hv : VRel m v v') :
    ∃ p' w' m', (Instr.box e v').run P w = .ok p' w' ∧ Evo m A w m' (abox A v).2 w' ∧ VRel m' (abox A v).1 p' := by
  obtain ⟨w', m', h1, h2, h3⟩ := newRow_sound (P := P) hs e 1 hv.cells
  refine ⟨.pointer (some ⟨w.heap.size, 0, none⟩), w', m', ?_, h2, ?_⟩
  · simp only [Instr.box, newVar, Sem.run_bind, h1, Result.andThen_ok, Sem.run_pure]
  · rw [h3]
    exact .ptr (ARel.new m A.next ⟨w.heap.size, 0, 1, _⟩ 0)

/-! ### Fields and elements -/

def afieldAddr (P : Program) (s : TypeId) (x : Value) (f : Nat) : Option Value :=
  match P.underlying s, x with
  | some (.struct fs), .pointer (some p) =>
    match fs[f]? with
    | some fd =>
      match P.info? fd.type with
      | some i => if i.size = 0 then none else some (.pointer (some ⟨p.block, p.off + fd.offset, none⟩))
      | none => none
    | none => none
  | _, _ => none

theorem ARel.plus {m : Mp} {a a' : Addr} (h : ARel m a a') (n : Nat) : ARel m ⟨a.block, a.off + n, none⟩ (a'.add n) := by
  obtain ⟨h1, h2, p, h3, h4, h5⟩ := h
  rw [addr_add _ _ h2]
  exact ⟨rfl, rfl, p, h3, h4, by simp only [h5, Nat.add_assoc]⟩

theorem afieldAddr_sound {P : Program} {m : Mp} {s : TypeId} {x x' v : Value} {f : Nat} (h : afieldAddr P s x f = some v) (hx : VRel m x x') :
    ∃ v', VRel m v v' ∧ ∀ w, (Instr.fieldAt s x' f).run P w = .ok v' w := by
  unfold afieldAddr at h
  split at h
  · rename_i fs p hu
    cases hx with
    | ptr ha =>
      rename_i p'
      split at h
      · rename_i fd hf
        split at h
        · rename_i i hi
          split at h
          · cases h
          · rename_i h0
            injection h with h
            subst h
            refine ⟨.pointer (some (p'.add fd.offset)), .ptr (ha.plus _), fun w => ?_⟩
            simp [Instr.fieldAt, run_underlying hu, hf, Instr.sureAddr, fieldPlace, run_sizeOf hi, h0]
        · cases h
      · cases h
  · cases h

def apart (P : Program) (t : TypeId) (cs : Array Value) (off : Nat) : Option Value :=
  match isAggT P t with
  | some false => cs[off]?
  | some true =>
    match P.info? t with
    | some i => some (.agg (cs.extract off (off + i.size)))
    | none => none
  | none => none

theorem apart_sound {P : Program} {m : Mp} {t : TypeId} {cs cs' : Array Value} {off : Nat} {v : Value} (h : apart P t cs off = some v) (hc : VRel m (.agg cs) (.agg cs')) :
    ∃ v', VRel m v v' ∧ ∀ w, (part t cs' off).run P w = .ok v' w := by
  cases hc with
  | agg hx h1 =>
    unfold apart at h
    split at h
    · rename_i ha
      have hlt : off < cs'.size := by rw [← hx]; exact (Array.getElem?_eq_some_iff.1 h).1
      have e := Array.getElem?_eq_getElem hlt
      refine ⟨cs'[off], h1 off v _ h e, fun w => ?_⟩
      simp only [part, Sem.run_bind, run_isAgg ha, Result.andThen_ok, Bool.false_eq_true, if_false]
      rw [e]
      rfl
    · rename_i ha
      split at h
      · rename_i i hi
        injection h with h
        subst h
        refine ⟨.agg (cs'.extract off (off + i.size)), .agg (by simp [hx]) ?_, fun w => ?_⟩
        · intro j v v' h2 h3
          rw [Array.getElem?_extract] at h2 h3
          split at h2
          · rename_i hj
            rw [if_pos (by rw [← hx]; exact hj)] at h3
            exact h1 _ v v' h2 h3
          · cases h2
        · simp only [part, Sem.run_bind, run_isAgg ha, Result.andThen_ok, if_true, run_sizeOf hi, Sem.run_pure]
      · cases h
    · cases h

def afield (P : Program) (t : TypeId) (x : Value) (f : Nat) : Option Value :=
  match P.underlying t, x with
  | some (.struct fs), .agg cs =>
    match fs[f]? with
    | some fd => apart P fd.type cs fd.offset
    | none => none
  | _, _ => none

theorem afield_sound {P : Program} {m : Mp} {t : TypeId} {x x' v : Value} {f : Nat} (h : afield P t x f = some v) (hx : VRel m x x') :
    ∃ v', VRel m v v' ∧ ∀ w, (Instr.field t x' f).run P w = .ok v' w := by
  unfold afield at h
  split at h
  · rename_i fs cs hu
    split at h
    · rename_i fd hf
      have hx0 := hx
      cases hx with
      | agg hsz h1 =>
        obtain ⟨v', h3, h2⟩ := apart_sound (P := P) h hx0
        refine ⟨v', h3, fun w => ?_⟩
        simp only [Instr.field, Sem.run_bind, run_underlying hu, Result.andThen_ok, hf, asAgg, Sem.run_pure, h2]
    · cases h
  · cases h

def aindexAddr (P : Program) (t : TypeId) (x ix : Value) : Option Value :=
  match P.underlying t, x, ix with
  | some (.slice e), .slice (some p) len _, .int _ n =>
    match P.info? e with
    | some i => if 0 ≤ n ∧ n < len then some (.pointer (some ⟨p.block, p.off + n.toNat * i.size, none⟩)) else none
    | none => none
  | some (.array len e), .pointer (some p), .int _ n =>
    match P.info? e with
    | some i => if 0 ≤ n ∧ n < len then some (.pointer (some ⟨p.block, p.off + n.toNat * i.size, none⟩)) else none
    | none => none
  | _, _, _ => none

theorem aindexAddr_sound {P : Program} {m : Mp} {t : TypeId} {x x' y y' v : Value} (h : aindexAddr P t x y = some v) (hx : VRel m x x') (hy : VRel m y y') :
    ∃ v', VRel m v v' ∧ ∀ w, (Instr.indexAt t x' y').run P w = .ok v' w := by
  unfold aindexAddr at h
  split at h
  · rename_i e p len cap k n hu
    cases hy
    split at h
    · rename_i i hi
      split at h
      · rename_i hb
        injection h with h
        subst h
        cases hx with
        | slice hh h1 h2 =>
          rename_i p' cap'
          have ha : ARel m p p' := by
            rcases hh with hh | hh
            · exact hh.arel
            · omega
          refine ⟨.pointer (some (p'.add (n.toNat * i.size))), .ptr (ha.plus _), fun w => ?_⟩
          simp [Instr.indexAt, run_underlying hu, asIntOf, run_sizeOf hi, hb.1, hb.2]
      · cases h
    · cases h
  · rename_i len e p k n hu
    cases hy
    split at h
    · rename_i i hi
      split at h
      · rename_i hb
        injection h with h
        subst h
        cases hx with
        | ptr ha =>
          rename_i p'
          refine ⟨.pointer (some (p'.add (n.toNat * i.size))), .ptr (ha.plus _), fun w => ?_⟩
          simp [Instr.indexAt, run_underlying hu, asIntOf, run_sizeOf hi, hb.1, hb.2, Instr.sureAddr]
      · cases h
    · cases h
  · cases h

def aindex (P : Program) (t : TypeId) (x ix : Value) : Option Value :=
  match P.underlying t, x, ix with
  | some (.array len e), .agg cs, .int _ n =>
    match P.info? e with
    | some i => if 0 ≤ n ∧ n < len then apart P e cs (n.toNat * i.size) else none
    | none => none
  | some .string, .string s, .int _ n =>
    if 0 ≤ n then
      match s[n.toNat]? with
      | some b => some (.int .u8 b.toNat)
      | none => none
    else none
  | _, _, _ => none

theorem aindex_sound {P : Program} {m : Mp} {t : TypeId} {x x' y y' v : Value} (h : aindex P t x y = some v) (hx : VRel m x x') (hy : VRel m y y') :
    ∃ v', VRel m v v' ∧ ∀ w, (Instr.index t x' y').run P w = .ok v' w := by
  unfold aindex at h
  split at h
  · rename_i len e cs k n hu
    cases hy
    split at h
    · rename_i i hi
      split at h
      · rename_i hb
        have hx0 := hx
        cases hx with
        | agg hsz h1 =>
          obtain ⟨v', h3, h2⟩ := apart_sound (P := P) h hx0
          exact ⟨v', h3, fun w => by simp [Instr.index, run_underlying hu, asIntOf, run_sizeOf hi, hb.1, hb.2, h2]⟩
      · cases h
    · cases h
  · rename_i s k n hu
    cases hx; cases hy
    split at h
    · rename_i h0
      split at h
      · rename_i b hb
        injection h with h
        subst h
        exact ⟨.int .u8 b.toNat, by constructor, fun w => by simp [Instr.index, run_underlying hu, asIntOf, h0, hb]⟩
      · cases h
    · cases h
  · cases h

/-! ### Slices of slices -/

/-- A bound of a slice expression. -/
def abound (v : Option Value) (d lim : Nat) : Option Nat :=
  match v with
  | none => some d
  | some (.int _ n) => if 0 ≤ n ∧ n ≤ lim then some n.toNat else none
  | some _ => none

def asliceAt (P : Program) (A : AW) (e : TypeId) (p : Addr) (l : Nat) : Option Addr :=
  if l = 0 then some p else
  match P.info? e, A.get p.block with
  | some i, some (.cells _ _ unit) => if unit = i.size then some ⟨p.block, p.off + l * i.size, none⟩ else none
  | _, _ => none

def aslice (P : Program) (A : AW) (t : TypeId) (x : Value) (lo hi mx : Option Value) : Option Value :=
  match P.underlying t, x, mx with
  | some (.slice e), .slice a len cap, none =>
    match abound hi len cap with
    | some h =>
      match abound lo 0 h with
      | some l =>
        match P.info? e, a with
        | some _, none => some (.slice none (h - l) (cap - l))
        | some _, some p =>
          match asliceAt P A e p l with
          | some q => some (.slice (some q) (h - l) (cap - l))
          | none => none
        | none, _ => none
      | none => none
    | none => none
  | some .string, .string s, none =>
    match abound hi s.size s.size with
    | some h =>
      match abound lo 0 h with
      | some l => some (.string (s.extract l h))
      | none => none
    | none => none
  | _, _, _ => none

end Go.Stx

namespace Go.Stx
open Go
variable [Gl]
set_option linter.unusedSectionVars false

def ORel (m : Mp) : Option Value → Option Value → Prop
  | none, none => True
  | some v, some v' => VRel m v v'
  | _, _ => False

theorem run_sliceBound {P : Program} {w : World} {k : IntKind} {n : Int} {y : Nat} {code : BoundsCode} (h0 : 0 ≤ n) (h1 : n ≤ y) :
    (Instr.sliceBound (.int k n) y code).run P w = .ok n.toNat w := by
  simp [Instr.sliceBound, asIntOf, h0, h1]

theorem abound_conc {m : Mp} {v v' : Option Value} {d lim h : Nat} (hb : abound v d lim = some h) (hv : ORel m v v') :
    (v' = none ∧ h = d) ∨ ∃ k n, v' = some (.int k n) ∧ 0 ≤ n ∧ n ≤ lim ∧ h = n.toNat := by
  unfold abound at hb
  split at hb
  · injection hb with hb
    cases v' with
    | none => exact .inl ⟨rfl, hb.symm⟩
    | some _ => exact hv.elim
  · rename_i k n
    split at hb
    · rename_i hc
      injection hb with hb
      cases v' with
      | none => exact hv.elim
      | some _ => cases hv; exact .inr ⟨k, n, rfl, hc.1, hc.2, hb.symm⟩
    · cases hb
  · cases hb

theorem run_sliceBounds {P : Program} {m : Mp} {lo hi lo' hi' : Option Value} {len cap cap' h l : Nat} (isS : Bool) (hh : abound hi len cap = some h) (hl : abound lo 0 h = some l)
    (hc : cap ≤ cap') (hlo : ORel m lo lo') (hhi : ORel m hi hi') (w : World) : (Instr.sliceBounds isS len cap' lo' hi' none).run P w = .ok (l, h, cap') w := by
  rcases abound_conc hh hhi with ⟨rfl, rfl⟩ | ⟨k, n, rfl, h0, h1, rfl⟩ <;> rcases abound_conc hl hlo with ⟨rfl, rfl⟩ | ⟨k', n', rfl, h0', h1', rfl⟩
  · simp [Instr.sliceBounds]
  · simp [Instr.sliceBounds, run_sliceBound h0' h1']
  · have h2 : n ≤ (cap' : Int) := by omega
    simp [Instr.sliceBounds, run_sliceBound h0 h2]
  · have h2 : n ≤ (cap' : Int) := by omega
    simp [Instr.sliceBounds, run_sliceBound h0 h2, run_sliceBound h0' h1']

theorem abound_le {v : Option Value} {d lim h : Nat} (hb : abound v d lim = some h) : h = d ∨ h ≤ lim := by
  unfold abound at hb
  split at hb
  · injection hb with hb; exact .inl hb.symm
  · split at hb
    · rename_i hc; injection hb with hb; exact .inr (by omega)
    · cases hb
  · cases hb

theorem aslice_sound {P : Program} {m : Mp} {A : AW} {w : World} (hs : Sim m A w) {t : TypeId} {x x' v : Value} {lo hi mx lo' hi' mx' : Option Value} (h : aslice P A t x lo hi mx = some v)
    (hx : VRel m x x') (hlo : ORel m lo lo') (hhi : ORel m hi hi') (hmx : ORel m mx mx') : ∃ v', VRel m v v' ∧ ∀ w', (Instr.sliceAt t x' lo' hi' mx').run P w' = .ok v' w' := by
  unfold aslice at h
  split at h
  · rename_i e a len cap hu
    cases mx' with
    | some _ => exact hmx.elim
    | none =>
    split at h
    · rename_i hh ehi
      split at h
      · rename_i l elo
        have hlh : l = 0 ∨ l ≤ hh := abound_le elo
        have hhc : hh = len ∨ hh ≤ cap := abound_le ehi
        split at h
        · rename_i i hi
          injection h with h
          subst h
          cases hx
          have hr := run_sliceBounds (P := P) (m := m) true ehi elo (Nat.le_refl 0) hlo hhi
          have h1 : hh = 0 := by omega
          have h2 : l = 0 := by omega
          subst h1; subst h2
          refine ⟨.slice none 0 0, .sliceNone, fun w' => ?_⟩
          simp [Instr.sliceAt, Instr.slice, run_underlying hu, hr, run_sizeOf hi]
        · rename_i i p hi
          split at h
          · rename_i q hq
            injection h with h
            subst h
            cases hx with
            | slice hsr h1 h2 =>
              rename_i p' cap'
              have hr := run_sliceBounds (P := P) (m := m) true ehi elo h2 hlo hhi
              refine ⟨.slice (some (if cap' = l then p' else p'.add (l * i.size))) (hh - l) (cap' - l), ?_, fun w' => ?_⟩
              rotate_left
              · simp only [Instr.sliceAt, Sem.run_bind, run_underlying hu, Result.andThen_ok, Instr.slice, hr, run_sizeOf hi, Sem.run_pure, Option.map_some]
                split <;> rfl
              · refine .slice ?_ (by omega) (by omega)
                by_cases hcl : cap' = l
                · refine .inr ⟨by omega, by omega, ?_⟩
                  unfold asliceAt at hq
                  split at hq
                  · injection hq with hq
                    subst hq
                    rcases hsr with ⟨_, _, pl, g3, _⟩ | ⟨_, _, g⟩
                    · exact .inr (by rw [g3]; exact Option.some_ne_none _)
                    · exact g
                  · split at hq
                    · rename_i hg
                      split at hq
                      · injection hq with hq
                        subst hq
                        obtain ⟨pl, g7, _⟩ := hs.obj _ _ hg
                        exact .inr (by simp only; rw [g7]; exact Option.some_ne_none _)
                      · cases hq
                    · cases hq
                · rw [if_neg hcl]
                  have hsr' : SRel m p p' cap' := by
                    rcases hsr with hsr | hsr
                    · exact hsr
                    · omega
                  obtain ⟨g1, g2, pl, g3, g4, g5, g6⟩ := hsr'
                  unfold asliceAt at hq
                  split at hq
                  · rename_i hl0
                    subst hl0
                    injection hq with hq
                    subst hq
                    rw [Nat.zero_mul, show p'.add 0 = p' by unfold Addr.add; simp]
                    exact .inl ⟨g1, g2, pl, g3, g4, g5, by simpa using g6⟩
                  · rename_i hl0
                    split at hq
                    · rename_i i' cs own unit hi' hg
                      rw [hi] at hi'
                      injection hi' with hi'
                      subst hi'
                      split at hq
                      · rename_i hun
                        injection hq with hq
                        subst hq
                        obtain ⟨pl', g7, cur, e', fr, g8, _, g9, _⟩ := hs.obj _ _ hg
                        rw [g3] at g7
                        injection g7 with g7
                        subst g7
                        rw [addr_add _ _ g2]
                        refine .inl ⟨rfl, rfl, pl, g3, g4, by simp only [g5, Nat.add_assoc], ?_⟩
                        rw [← g9, hun] at g6 ⊢
                        simp only
                        have : l * i.size + (cap' - l) * i.size = cap' * i.size := by
                          rw [← Nat.add_mul]; congr 1; omega
                        omega
                      · cases hq
                    · cases hq
          · cases h
        · cases h
      · cases h
    · cases h
  · rename_i s hu
    cases mx' with
    | some _ => exact hmx.elim
    | none =>
    cases hx
    split at h
    · rename_i hh ehi
      split at h
      · rename_i l elo
        injection h with h
        subst h
        have hr := run_sliceBounds (P := P) (m := m) false ehi elo (Nat.le_refl _) hlo hhi
        refine ⟨.string (s.extract l hh), .string _, fun w' => ?_⟩
        simp [Instr.sliceAt, Instr.slice, run_underlying hu, hr]
      · cases h
    · cases h
  · cases h

/-- s[:0:0]: nothing, and no capacity; the mark 'spot' says so. -/
def aslice0 (P : Program) (t : TypeId) (x : Value) (lo hi : Option Value) (mx : Value) : Option Value :=
  match P.underlying t, x, lo, hi, mx with
  | some (.slice e), .slice a _ _, none, some (.int _ h), .int _ q =>
    match P.info? e with
    | some _ => if h = 0 ∧ q = 0 then some (match a with | none => .slice none 0 0 | some _ => .slice (some ⟨0, 0, some 0⟩) 0 0) else none
    | none => none
  | _, _, _, _, _ => none

theorem aslice0_sound {P : Program} {m : Mp} {t : TypeId} {x x' v mx mx' : Value} {lo hi lo' hi' : Option Value} (h : aslice0 P t x lo hi mx = some v)
    (hx : VRel m x x') (hlo : ORel m lo lo') (hhi : ORel m hi hi') (hmx : VRel m mx mx') : ∃ v', VRel m v v' ∧ ∀ w', (Instr.sliceAt t x' lo' hi' (some mx')).run P w' = .ok v' w' := by
  unfold aslice0 at h
  split at h <;> try (cases h; done)
  rename_i e a len cap k h0 k' q hu
  split at h <;> try (cases h; done)
  rename_i i hi0
  split at h <;> try (cases h; done)
  rename_i hc
  obtain ⟨rfl, rfl⟩ := hc
  injection h with h
  subst h
  cases lo' with
  | some _ => exact hlo.elim
  | none =>
  cases hi' with
  | none => exact hhi.elim
  | some hv =>
  have hhi' : VRel m (.int k 0) hv := hhi
  cases hhi'
  cases hmx
  have hb : ∀ (cap' : Nat) (w' : World), (Instr.sliceBounds true len cap' none (some (.int k 0)) (some (.int k' 0))).run P w' = .ok (0, 0, 0) w' := fun cap' w' => by
    simp [Instr.sliceBounds, run_sliceBound (P := P) (w := w') (k := k') (n := 0) (y := cap') (code := .slice3Acap) (by omega) (by omega),
      run_sliceBound (P := P) (w := w') (k := k) (n := 0) (y := 0) (code := .slice3B) (by omega) (by omega)]
  cases a with
  | none =>
    cases hx
    exact ⟨.slice none 0 0, .sliceNone, fun w' => by simp [Instr.sliceAt, Instr.slice, run_underlying hu, hb, run_sizeOf hi0]⟩
  | some a =>
    cases hx with
    | slice hh h1 h2 =>
      rename_i a' cap'
      exact ⟨.slice (some a') 0 0, .slice (.inr ⟨rfl, rfl, .inl rfl⟩) (Nat.le_refl _) (Nat.le_refl _), fun w' => by simp [Instr.sliceAt, Instr.slice, run_underlying hu, hb, run_sizeOf hi0]⟩

/-! ### Rows that are written out: []T{..} -/

def aputs (size : Nat) : List (Nat × Value) → List Value → Option (List Value)
  | [], cs => some cs
  | (i, v) :: rest, cs => if v.cells.size = size ∧ i * size + size ≤ cs.length then aputs size rest (setCells cs (i * size) v.cells.toList) else none

def azeros (z : List Value) : Nat → List Value
  | 0 => []
  | n + 1 => z ++ azeros z n

theorem foldl_set_eq (l : List Value) : ∀ (cs : Array Value) (off k : Nat), off + k + l.length ≤ cs.size →
    ((l.zipIdx k).foldl (fun cs (c, j) => cs.setIfInBounds (off + j) c) cs).toList = setCells cs.toList (off + k) l := by
  induction l with
  | nil => intro cs off k _; rfl
  | cons v l ih =>
    intro cs off k h
    simp only [List.zipIdx_cons, List.foldl_cons, setCells]
    rw [ih _ off (k + 1) (by simp at h ⊢; omega)]
    simp [Nat.add_assoc]

theorem setCells_rel {m : Mp} : ∀ (l l' : List Value) (off : Nat) (cs cs' : List Value), LRel m cs cs' → LRel m l l' → off + l.length ≤ cs.length →
    LRel m (setCells cs off l) (setCells cs' off l')
  | [], l', off, cs, cs', h, hl, _ => by
    have e := hl.inv_nil
    subst e
    exact h
  | v :: l, l', off, cs, cs', h, hl, hle => by
    obtain ⟨v', t', rfl, hv, ht⟩ := hl.inv_cons
    simp only [List.length_cons] at hle
    refine setCells_rel l t' (off + 1) _ _ ⟨by simp [h.1], fun i x x' h1 h2 => ?_⟩ ht (by simp; omega)
    by_cases hi : off = i
    · subst hi
      rw [List.getElem?_set_self (by omega)] at h1
      rw [List.getElem?_set_self (by rw [← h.1]; omega)] at h2
      injection h1 with h1
      injection h2 with h2
      subst h1; subst h2
      exact hv
    · rw [List.getElem?_set_ne hi] at h1 h2
      exact h.2 i x x' h1 h2

theorem aputs_sound {m : Mp} {size : Nat} : ∀ (parts parts' : List (Nat × Value)) (cs r : List Value) (cs' : Array Value), aputs size parts cs = some r → LRel m cs cs'.toList →
    parts.length = parts'.length → (∀ (k : Nat) (p p' : Nat × Value), parts[k]? = some p → parts'[k]? = some p' → p.1 = p'.1 ∧ VRel m p.2 p'.2) →
    ∃ r', Instr.fill (fun i => some (i * size, size)) cs' parts' = some r' ∧ LRel m r r'.toList
  | [], parts', cs, r, cs', h, hc, hl, _ => by
    cases parts' with
    | cons _ _ => simp at hl
    | nil =>
      injection h with h
      subst h
      exact ⟨cs', rfl, hc⟩
  | (i, v) :: rest, parts', cs, r, cs', h, hc, hl, hp => by
    cases parts' with
    | nil => simp at hl
    | cons p' rest' =>
      obtain ⟨i', v'⟩ := p'
      obtain ⟨h1, h2⟩ := hp 0 _ _ rfl rfl
      simp only at h1 h2
      subst h1
      unfold aputs at h
      split at h
      · rename_i hcond
        obtain ⟨hz, hle⟩ := hcond
        have hcl := h2.cells
        have hz' : v'.cells.size = size := by have := hcl.1; simp at this; omega
        have hsz : cs'.size = cs.length := by have := hc.1; simp at this; omega
        have hfold := foldl_set_eq v'.cells.toList cs' (i * size) 0 (by simp; omega)
        obtain ⟨r', h3, h4⟩ := aputs_sound rest rest' _ r (v'.cells.zipIdx.foldl (fun cs (c, j) => cs.setIfInBounds (i * size + j) c) cs') h (by
          rw [← Array.foldl_toList, Array.toList_zipIdx, hfold]
          exact setCells_rel _ _ _ _ _ hc hcl (by simp; omega)) (by simpa using hl) (fun k p p' a b => hp (k + 1) p p' (by simpa using a) (by simpa using b))
        refine ⟨r', ?_, h4⟩
        simp only [Instr.fill, hz', ne_eq, not_true_eq_false, decide_false, Bool.false_or, hsz, decide_eq_true_eq]
        rw [if_neg (by omega)]
        exact h3
      · cases h

theorem length_azeros (z : List Value) (n : Nat) : (azeros z n).length = n * z.length := by
  induction n with
  | zero => simp [azeros]
  | succ n ih => simp [azeros, ih, Nat.add_mul]; omega

theorem azeros_get (z : List Value) (n j : Nat) (h : j < n * z.length) : (azeros z n)[j]? = z[j % z.length]? := by
  induction n generalizing j with
  | zero => simp at h
  | succ n ih =>
    simp only [azeros]
    by_cases hj : j < z.length
    · rw [List.getElem?_append_left hj, Nat.mod_eq_of_lt hj]
    · rw [List.getElem?_append_right (by omega), ih _ (by simp [Nat.add_mul] at h; omega)]
      rw [Nat.mod_eq_sub_mod (by omega : z.length ≤ j)]

theorem azeros_conc (z : Array Value) (n : Nat) (h : 0 < z.size) : ((Array.range (n * z.size)).map (fun j => z[j % z.size]!)).toList = azeros z.toList n := by
  apply List.ext_getElem?
  intro j
  by_cases hj : j < n * z.size
  · rw [azeros_get _ _ _ (by simpa using hj)]
    have hm : j % z.size < z.size := Nat.mod_lt _ h
    simp [hj, hm]
  · rw [List.getElem?_eq_none (by simp; omega), List.getElem?_eq_none (by rw [length_azeros]; simp; omega)]

/-- A value without addresses: it is related to itself. -/
def scalarV : Value → Bool
  | .bool _ | .int _ _ | .float _ _ | .complex _ _ _ | .string _ | .pointer none | .slice none 0 0 | .map none | .chan none | .nilFunc | .nilIface => true
  | _ => false
def groundV : Value → Bool
  | .agg cs => cs.all scalarV
  | .tuple cs => cs.all scalarV
  | v => scalarV v

theorem VRel.of_scalar {v : Value} (h : scalarV v = true) (m : Mp) : VRel m v v := by
  unfold scalarV at h
  split at h <;> first | (cases h; done) | constructor

theorem VRel.of_ground {v : Value} (h : groundV v = true) (m : Mp) : VRel m v v := by
  unfold groundV at h
  split at h
  · refine .agg rfl fun i v v' h1 h2 => ?_
    rw [h1] at h2
    injection h2 with h2
    subst h2
    exact .of_scalar (Array.all_eq_true_iff_forall_mem.1 h _ (Array.mem_of_getElem? h1)) m
  · refine .tuple rfl fun i v v' h1 h2 => ?_
    rw [h1] at h2
    injection h2 with h2
    subst h2
    exact .of_scalar (Array.all_eq_true_iff_forall_mem.1 h _ (Array.mem_of_getElem? h1)) m
  · exact .of_scalar h m

theorem LRel.of_scalars {l : List Value} (h : l.all scalarV = true) (m : Mp) : LRel m l l :=
  ⟨rfl, fun i v v' h1 h2 => by
    rw [h1] at h2
    injection h2 with h2
    subst h2
    exact .of_scalar (List.all_eq_true.1 h _ (List.mem_of_getElem? h1)) m⟩

theorem azeros_scalar {z : List Value} (h : z.all scalarV = true) (n : Nat) : (azeros z n).all scalarV = true := by
  induction n with
  | zero => rfl
  | succ n ih => simp only [azeros, List.all_append, h, ih, Bool.and_self]

def abuildSlice (P : Program) (A : AW) (t : TypeId) (len : Nat) (parts : List (Nat × Value)) : Option (Value × AW) :=
  match P.underlying t with
  | some (.slice e) =>
    match P.info? e with
    | some i =>
      match i.zero with
      | some z =>
        if z.cells.size = i.size ∧ 0 < i.size ∧ len * i.size ≤ 2 ^ 24 ∧ z.cells.toList.all scalarV then
          match aputs i.size parts (azeros z.cells.toList len) with
          | some cs => some (.slice (some ⟨A.next, 0, none⟩) len len, A.alloc (.cells cs true i.size))
          | none => none
        else none
      | none => none
    | none => none
  | _ => none

theorem fill_size (size : Nat) : ∀ (parts : List (Nat × Value)) (cs r : Array Value), Instr.fill (fun i => some (i * size, size)) cs parts = some r → r.size = cs.size
  | [], cs, r, h => by injection h with h; subst h; rfl
  | (i, v) :: rest, cs, r, h => by
    unfold Instr.fill at h
    simp only at h
    split at h
    · cases h
    · rw [fill_size size rest _ r h]
      have : ∀ (l : List (Value × Nat)) (cs : Array Value), (l.foldl (fun cs (c, j) => cs.setIfInBounds (i * size + j) c) cs).size = cs.size := by
        intro l
        induction l with
        | nil => intro cs; rfl
        | cons x l ih => intro cs; simp [List.foldl_cons, ih]
      rw [← Array.foldl_toList]
      exact this _ _

theorem abuildSlice_sound {P : Program} {m : Mp} {A A1 : AW} {w : World} (hs : Sim m A w) {t : TypeId} {len : Nat} {parts : List (Nat × Value)} {parts' : Array (Nat × Value)} {v : Value}
    (h : abuildSlice P A t len parts = some (v, A1)) (hl : parts.length = parts'.size)
    (hp : ∀ (k : Nat) (p p' : Nat × Value), parts[k]? = some p → parts'[k]? = some p' → p.1 = p'.1 ∧ VRel m p.2 p'.2) :
    ∃ v' w' m', (Instr.buildSlice t len parts').run P w = .ok v' w' ∧ Evo m A w m' A1 w' ∧ VRel m' v v' := by
  unfold abuildSlice at h
  split at h <;> try (cases h; done)
  rename_i e hu
  split at h <;> try (cases h; done)
  rename_i i hi
  split at h <;> try (cases h; done)
  rename_i z hz
  split at h <;> try (cases h; done)
  rename_i hc
  obtain ⟨hzs, h0, h24, hsc⟩ := hc
  split at h <;> try (cases h; done)
  rename_i cs hputs
  simp only [Option.some.injEq, Prod.mk.injEq] at h
  obtain ⟨rfl, rfl⟩ := h
  have hzc := azeros_conc z.cells len (by omega)
  rw [hzs] at hzc
  obtain ⟨r', h1, h2⟩ := aputs_sound (m := m) parts parts'.toList _ cs ((Array.range (len * i.size)).map (fun j => z.cells[j % i.size]!)) hputs
    (by rw [hzc]; exact .of_scalars (azeros_scalar hsc len) m) (by simpa using hl) (fun k p p' a b => hp k p p' a (by simpa using b))
  have hrs : r'.size = len * i.size := by rw [fill_size _ _ _ _ h1]; simp
  obtain ⟨w', m', h3, h4, h5⟩ := newRow_sound (P := P) hs e i.size h2
  refine ⟨.slice (some ⟨w.heap.size, 0, none⟩) len len, w', m', ?_, h4, ?_⟩
  · simp only [Instr.buildSlice, Sem.run_bind, run_underlying hu, Result.andThen_ok, run_sizeOf hi]
    rw [if_neg (by omega)]
    by_cases hl0 : len * i.size = 0
    · rw [if_pos hl0]
      have hfun : ((Array.range (len * i.size)).map fun j => (#[] : Array Value)[j % (#[] : Array Value).size]!) = (Array.range (len * i.size)).map (fun j => z.cells[j % i.size]!) := by
        simp [hl0]
      simp only [Sem.run_bind, Sem.run_pure, Result.andThen_ok, hfun, h1, h3]
    · rw [if_neg hl0]
      have hzv : (zeroValue e).run P w = .ok z w := by simp [zeroValue, typeInfo, hi, hz]
      simp only [Sem.run_bind, Sem.run_pure, Result.andThen_ok, hzv, hzs, h1, h3]
  · refine .slice (.inl ⟨rfl, rfl, ⟨w.heap.size, 0, i.size, r'.size⟩, by rw [h5]; simp [Mp.ext], rfl, rfl, ?_⟩) (Nat.le_refl _) (Nat.le_refl _)
    show 0 + len * i.size ≤ r'.size
    omega

end Go.Stx

namespace Go.Stx
open Go
variable [Gl]
set_option linter.unusedSectionVars false

theorem run_asInt {P : Program} {w : World} {k : IntKind} {n : Int} : (asInt (.int k n)).run P w = .ok n w := by simp [asInt, asIntOf]

theorem wrap_i64 {x : Int} (h0 : -9223372036854775808 ≤ x) (h1 : x ≤ 9223372036854775807) : IntKind.i64.wrap x = x := by
  simp only [IntKind.wrap, IntKind.bits, IntKind.signed, Bool.true_and]
  split
  · rename_i h; have := of_decide_eq_true h; omega
  · rename_i h; have := of_decide_eq_false (eq_false_of_ne_true h); omega

theorem wrap_u64 {x : Int} (h0 : 0 ≤ x) (h1 : x < 18446744073709551616) : IntKind.u64.wrap x = x := by
  simp only [IntKind.wrap, IntKind.bits, IntKind.signed, Bool.false_and, Bool.false_eq_true, if_false]
  omega

def amake (P : Program) (A : AW) (t : TypeId) (l c : Value) : Option (Value × AW) :=
  match P.underlying t, l, c with
  | some (.slice e), .int _ l, .int _ c =>
    match P.info? e with
    | some i =>
      match i.zero with
      | some z =>
        if z.cells.size = i.size ∧ 0 < i.size ∧ z.cells.toList.all scalarV ∧ 0 ≤ l ∧ l ≤ c ∧ c ≤ 140737488355328 ∧ c * i.bytes ≤ 140737488355328 then
          some (.slice (some ⟨A.next, 0, none⟩) l.toNat c.toNat, A.alloc (.cells (azeros z.cells.toList c.toNat) true i.size))
        else none
      | none => none
    | none => none
  | _, _, _ => none

theorem amake_sound {P : Program} {m : Mp} {A A1 : AW} {w : World} (hs : Sim m A w) {t : TypeId} {l c l' c' v : Value} (h : amake P A t l c = some (v, A1)) (hl : VRel m l l') (hc : VRel m c c') :
    ∃ v' w' m', (Instr.makeSlice t l' c').run P w = .ok v' w' ∧ Evo m A w m' A1 w' ∧ VRel m' v v' := by
  unfold amake at h
  split at h <;> try (cases h; done)
  rename_i e k n k' q hu
  cases hl; cases hc
  split at h <;> try (cases h; done)
  rename_i i hi
  split at h <;> try (cases h; done)
  rename_i z hz
  split at h <;> try (cases h; done)
  rename_i hcond
  obtain ⟨hzs, h0, hsc, hn0, hnq, hq, hqb⟩ := hcond
  simp only [Option.some.injEq, Prod.mk.injEq] at h
  obtain ⟨rfl, rfl⟩ := h
  have hzc := azeros_conc z.cells q.toNat (by omega)
  rw [hzs] at hzc
  obtain ⟨w', m', h3, h4, h5⟩ := newRow_sound (P := P) hs e i.size (cur := (Array.range (q.toNat * i.size)).map (fun j => z.cells[j % i.size]!)) (by rw [hzc]; exact .of_scalars (azeros_scalar hsc q.toNat) m)
  have hw1 : IntKind.i64.wrap n = n := wrap_i64 (by omega) (by omega)
  have hw2 : IntKind.i64.wrap q = q := wrap_i64 (by omega) (by omega)
  refine ⟨.slice (some ⟨w.heap.size, 0, none⟩) n.toNat q.toNat, w', m', ?_, h4, ?_⟩
  · have hty : (typeInfo e).run P w = .ok i w := by simp [typeInfo, hi]
    have hb : (i.bytes : Int) * q ≤ 140737488355328 := by rw [Int.mul_comm]; exact hqb
    have c1 : (decide (q < 0) || decide ((i.bytes : Int) * q > 2 ^ 48)) = false := by
      simp only [Bool.or_eq_false_iff, decide_eq_false_iff_not]
      constructor <;> omega
    simp only [Instr.makeSlice, Sem.run_bind, run_underlying hu, Result.andThen_ok, run_asInt, hty, hw1, hw2, c1]
    rw [if_neg (by simp; omega)]
    simp only [Sem.run_bind, run_askRoom, Result.andThen_ok, run_sizeOf hi]
    by_cases hn : q.toNat * i.size = 0
    · rw [if_pos hn]
      have hfun : ((Array.range (q.toNat * i.size)).map fun j => (#[] : Array Value)[j % (#[] : Array Value).size]!) = (Array.range (q.toNat * i.size)).map (fun j => z.cells[j % i.size]!) := by
        simp [hn]
      simp only [Sem.run_bind, Sem.run_pure, Result.andThen_ok, hfun, h3]
    · rw [if_neg hn]
      have hzv : (zeroValue e).run P w = .ok z w := by simp [zeroValue, typeInfo, hi, hz]
      simp only [Sem.run_bind, Sem.run_pure, Result.andThen_ok, hzv, hzs, h3]
  · refine .slice (.inl ⟨rfl, rfl, ⟨w.heap.size, 0, i.size, ((Array.range (q.toNat * i.size)).map (fun j => z.cells[j % i.size]!)).size⟩, by rw [h5]; simp [Mp.ext], rfl, rfl, ?_⟩) (by omega) (Nat.le_refl _)
    show 0 + q.toNat * i.size ≤ ((Array.range (q.toNat * i.size)).map (fun j => z.cells[j % i.size]!)).size
    simp

def aalloc (P : Program) (A : AW) (t : TypeId) : Option (Value × AW) :=
  match P.info? t with
  | some i =>
    match i.zero with
    | some z => if groundV z then some (abox A z) else none
    | none => none
  | none => none

theorem aalloc_sound {P : Program} {m : Mp} {A A1 : AW} {w : World} (hs : Sim m A w) {t : TypeId} {v : Value} (h : aalloc P A t = some (v, A1)) :
    ∃ v' w' m', (Instr.alloc t true (.tuple #[])).run P w = .ok v' w' ∧ Evo m A w m' A1 w' ∧ VRel m' v v' := by
  unfold aalloc at h
  split at h <;> try (cases h; done)
  rename_i i hi
  split at h <;> try (cases h; done)
  rename_i z hz
  split at h <;> try (cases h; done)
  rename_i hg
  injection h with h
  obtain ⟨p', w', m', h1, h2, h3⟩ := abox_sound (P := P) hs t (VRel.of_ground hg m)
  rw [h] at h2 h3
  refine ⟨p', w', m', ?_, h2, h3⟩
  have hzv : (zeroValue t).run P w = .ok z w := by simp [zeroValue, typeInfo, hi, hz]
  simp only [Instr.alloc, Sem.run_bind, hzv, Result.andThen_ok]
  exact h1

/-! ### Struct and array values -/

def aputsP (place : Nat → Option (Nat × Nat)) : List (Nat × Value) → List Value → Option (List Value)
  | [], cs => some cs
  | (i, v) :: rest, cs =>
    match place i with
    | some (off, size) => if v.cells.size = size ∧ off + size ≤ cs.length then aputsP place rest (setCells cs off v.cells.toList) else none
    | none => none

theorem aputsP_sound {m : Mp} {place : Nat → Option (Nat × Nat)} : ∀ (parts parts' : List (Nat × Value)) (cs r : List Value) (cs' : Array Value), aputsP place parts cs = some r → LRel m cs cs'.toList →
    parts.length = parts'.length → (∀ (k : Nat) (p p' : Nat × Value), parts[k]? = some p → parts'[k]? = some p' → p.1 = p'.1 ∧ VRel m p.2 p'.2) →
    ∃ r', Instr.fill place cs' parts' = some r' ∧ LRel m r r'.toList
  | [], parts', cs, r, cs', h, hc, hl, _ => by
    cases parts' with
    | cons _ _ => simp at hl
    | nil =>
      injection h with h
      subst h
      exact ⟨cs', rfl, hc⟩
  | (i, v) :: rest, parts', cs, r, cs', h, hc, hl, hp => by
    cases parts' with
    | nil => simp at hl
    | cons p' rest' =>
      obtain ⟨i', v'⟩ := p'
      obtain ⟨h1, h2⟩ := hp 0 _ _ rfl rfl
      simp only at h1 h2
      subst h1
      unfold aputsP at h
      split at h
      · rename_i off size hpl
        split at h
        · rename_i hcond
          obtain ⟨hz, hle⟩ := hcond
          have hcl := h2.cells
          have hz' : v'.cells.size = size := by have := hcl.1; simp at this; omega
          have hsz : cs'.size = cs.length := by have := hc.1; simp at this; omega
          have hfold := foldl_set_eq v'.cells.toList cs' off 0 (by simp; omega)
          obtain ⟨r', h3, h4⟩ := aputsP_sound rest rest' _ r (v'.cells.zipIdx.foldl (fun cs (c, j) => cs.setIfInBounds (off + j) c) cs') h (by
            rw [← Array.foldl_toList, Array.toList_zipIdx, hfold]
            exact setCells_rel _ _ _ _ _ hc hcl (by simp; omega)) (by simpa using hl) (fun k p p' a b => hp (k + 1) p p' (by simpa using a) (by simpa using b))
          refine ⟨r', ?_, h4⟩
          simp only [Instr.fill, hpl, hz', ne_eq, not_true_eq_false, decide_false, Bool.false_or, hsz, decide_eq_true_eq]
          rw [if_neg (by omega)]
          exact h3
        · cases h
      · cases h

/-- Where the fields of a struct lie. -/
def aplaces (P : Program) (fs : List Field) : Option (List (Nat × Nat)) :=
  match fs with
  | [] => some []
  | f :: r =>
    match P.info? f.type, aplaces P r with
    | some i, some l => some ((f.offset, i.size) :: l)
    | _, _ => none

theorem aplaces_run {P : Program} {w : World} : ∀ (fs : List Field) (l : List (Nat × Nat)), aplaces P fs = some l →
    (fs.mapM fun f => (do pure (f.offset, ← sizeOf f.type) : Sem (Nat × Nat))).run P w = .ok l w
  | [], l, h => by injection h with h; subst h; rfl
  | f :: r, l, h => by
    unfold aplaces at h
    split at h
    · rename_i i l' hi hl
      injection h with h
      subst h
      simp only [List.mapM_cons, Sem.run_bind, run_sizeOf hi, Result.andThen_ok, Sem.run_pure, aplaces_run r l' hl]
    · cases h

theorem run_mapM_array {P : Program} {w w' : World} {α β : Type} (f : α → Sem β) (l : Array α) (r : List β) (h : (l.toList.mapM f).run P w = .ok r w') :
    (l.mapM f).run P w = .ok r.toArray w' := by
  rw [Array.mapM_eq_mapM_toList]
  simp only [Sem.run_map, h, Result.andThen_ok]

def abuild (P : Program) (t : TypeId) (parts : List (Nat × Value)) : Option Value :=
  match P.info? t with
  | some i =>
    match i.zero with
    | some z =>
      if z.cells.toList.all scalarV then
        match P.underlying t with
        | some (.struct fs) =>
          match aplaces P fs.toList with
          | some l =>
            match aputsP (fun k => l[k]?) parts z.cells.toList with
            | some cs => some (.agg cs.toArray)
            | none => none
          | none => none
        | some (.array _ e) =>
          match P.info? e with
          | some ie =>
            match aputsP (fun k => some (k * ie.size, ie.size)) parts z.cells.toList with
            | some cs => some (.agg cs.toArray)
            | none => none
          | none => none
        | _ => none
      else none
    | none => none
  | none => none

theorem abuild_sound {P : Program} {m : Mp} {t : TypeId} {parts : List (Nat × Value)} {parts' : Array (Nat × Value)} {v : Value}
    (h : abuild P t parts = some v) (hl : parts.length = parts'.size)
    (hp : ∀ (k : Nat) (p p' : Nat × Value), parts[k]? = some p → parts'[k]? = some p' → p.1 = p'.1 ∧ VRel m p.2 p'.2) :
    ∃ v', VRel m v v' ∧ ∀ w, (Instr.build t parts').run P w = .ok v' w := by
  unfold abuild at h
  split at h <;> try (cases h; done)
  rename_i i hi
  split at h <;> try (cases h; done)
  rename_i z hz
  split at h <;> try (cases h; done)
  rename_i hsc
  have hzv : ∀ w, (zeroValue t).run P w = .ok z w := fun w => by simp [zeroValue, typeInfo, hi, hz]
  split at h <;> try (cases h; done)
  · rename_i fs hu
    split at h <;> try (cases h; done)
    rename_i l hpl
    split at h <;> try (cases h; done)
    rename_i cs hcs
    injection h with h
    subst h
    obtain ⟨r', h1, h2⟩ := aputsP_sound (m := m) parts parts'.toList _ cs z.cells hcs (.of_scalars hsc m) (by simpa using hl) (fun k p p' a b => hp k p p' a (by simpa using b))
    refine ⟨.agg r', ?_, fun w => ?_⟩
    · have := VRel.of_LRel_agg h2
      simpa using this
    · have hm := run_mapM_array _ fs l (aplaces_run (w := w) fs.toList l hpl)
      simp only [Instr.build, Sem.run_bind, hzv, Result.andThen_ok, run_underlying hu, hm]
      have e : (fun (x : Nat) => l.toArray[x]?) = fun (k : Nat) => l[k]? := by funext k; simp
      rw [e, h1]
      rfl
  · rename_i n e hu
    split at h <;> try (cases h; done)
    rename_i ie hie
    split at h <;> try (cases h; done)
    rename_i cs hcs
    injection h with h
    subst h
    obtain ⟨r', h1, h2⟩ := aputsP_sound (m := m) parts parts'.toList _ cs z.cells hcs (.of_scalars hsc m) (by simpa using hl) (fun k p p' a b => hp k p p' a (by simpa using b))
    refine ⟨.agg r', ?_, fun w => ?_⟩
    · have := VRel.of_LRel_agg h2
      simpa using this
    · simp only [Instr.build, Sem.run_bind, hzv, Result.andThen_ok, run_underlying hu, run_sizeOf hie, h1, Sem.run_pure]

/-! ### Lengths, interfaces -/

def alen (P : Program) (t : TypeId) (x : Value) : Option Value :=
  match P.underlying t, x with
  | some .string, .string s => some (.int .i64 s.size)
  | some (.slice _), .slice _ n _ => some (.int .i64 n)
  | some (.array n _), _ => some (.int .i64 n)
  | _, _ => none

theorem alen_sound {P : Program} {m : Mp} {t ty : TypeId} {x x' v : Value} (h : alen P t x = some v) (hx : VRel m x x') :
    VRel m v v ∧ ∀ w, (Builtin.len_ #[t] ty #[x']).run P w = .ok v w := by
  unfold alen at h
  split at h
  · rename_i s hu; injection h with h; subst h; cases hx
    exact ⟨by constructor, fun w => by simp [Builtin.len_, run_underlying hu, goInt]⟩
  · rename_i e a n c hu; injection h with h; subst h
    cases hx <;> exact ⟨by constructor, fun w => by simp [Builtin.len_, run_underlying hu, goInt]⟩
  · rename_i n e hu; injection h with h; subst h
    exact ⟨by constructor, fun w => by simp [Builtin.len_, run_underlying hu, goInt]⟩
  · cases h

def amin (mx : Bool) : List Value → Option Value
  | [.int k a, .int k' b] => if k = k' then some (.int k (if mx then (if a < b then b else a) else (if b < a then b else a))) else none
  | _ => none

theorem amin_sound {P : Program} {m : Mp} {ts : Array TypeId} {ty : TypeId} {mx : Bool} {l : List Value} {l' : Array Value} {v : Value} (h : amin mx l = some v) (hl : LRel m l l'.toList) :
    VRel m v v ∧ ∀ w, ((if mx then Builtin.max_ ts ty l' else Builtin.min_ ts ty l')).run P w = .ok v w := by
  unfold amin at h
  split at h
  · rename_i k a k' b
    obtain ⟨x', t', e1, h1, h2⟩ := hl.inv_cons
    obtain ⟨y', t'', e2, h3, h4⟩ := h2.inv_cons
    have e3 := h4.inv_nil
    cases h1; cases h3
    subst e3; subst e2
    have hl' : l' = #[.int k a, .int k' b] := by apply Array.ext'; exact e1
    subst hl'
    split at h
    · injection h with h
      subst h
      cases mx
      · exact ⟨by constructor, fun w => by simp [Builtin.min_, Builtin.min2]⟩
      · refine ⟨by constructor, fun w => ?_⟩
        simp [Builtin.max_, Builtin.max2]
    · cases h
  · cases h

def amakeIface (P : Program) (t : TypeId) (x : Value) : Option Value :=
  match P.underlying t with
  | some (.interface _) => none
  | some _ => some (.iface t x)
  | none => none

theorem amakeIface_sound {P : Program} {m : Mp} {t : TypeId} {x x' v : Value} (h : amakeIface P t x = some v) (hx : VRel m x x') :
    ∃ v', VRel m v v' ∧ ∀ w, (Instr.makeInterface t x').run P w = .ok v' w := by
  unfold amakeIface at h
  cases hu : P.underlying t with
  | none => simp [hu] at h
  | some d =>
    rw [hu] at h
    cases d <;> simp only [Option.some.injEq] at h <;> (try (cases h; done)) <;> subst h <;>
      exact ⟨.iface t x', .iface t hx, fun w => by simp [Instr.makeInterface, run_underlying hu]⟩

end Go.Stx

namespace Go.Stx
open Go
variable [Gl]
set_option linter.unusedSectionVars false
open Go.MapKept (run_findKey)

def isKeyDesc : TypeDesc → Bool
  | .int _ => true
  | .string => true
  | _ => false

/-- No key of these is k. -/
def noneSame (d : TypeDesc) (k : Value) : List (Value × Value) → Bool
  | [] => true
  | e :: es =>
    match Instr.sameNow d k e.1 with
    | some false => noneSame d k es
    | _ => false

/-- Where k stands (once, and comparable with all other keys: so the order does not matter). -/
def afindKey (d : TypeDesc) (k : Value) : List (Value × Value) → Nat → Option (Option (Nat × Value))
  | [], _ => some none
  | e :: es, i =>
    match Instr.sameNow d k e.1 with
    | some true => match noneSame d k es with | true => some (some (i, e.2)) | false => none
    | some false => afindKey d k es (i + 1)
    | none => none

theorem noneSame_iff {d : TypeDesc} {k : Value} : ∀ {es : List (Value × Value)}, noneSame d k es = true ↔ ∀ x ∈ es, Instr.sameNow d k x.1 = some false
  | [] => by simp [noneSame]
  | e :: es => by
    unfold noneSame
    split
    · rename_i h
      rw [noneSame_iff]
      simp [h]
    · rename_i h
      simp only [Bool.false_eq_true, false_iff]
      intro hx
      exact h (hx e (by simp))

theorem afindKey_none {d : TypeDesc} {k : Value} : ∀ {es : List (Value × Value)} {n : Nat}, afindKey d k es n = some none ↔ ∀ x ∈ es, Instr.sameNow d k x.1 = some false
  | [], n => by simp [afindKey]
  | e :: es, n => by
    unfold afindKey
    split
    · rename_i h
      constructor
      · intro h1; split at h1 <;> cases h1
      · intro h1; have := h1 e (by simp); rw [h] at this; cases this
    · rename_i h
      rw [afindKey_none]
      simp [h]
    · rename_i h
      constructor
      · intro h1; cases h1
      · intro h1; have := h1 e (by simp); rw [h] at this; cases this

theorem afindKey_some {d : TypeDesc} {k v : Value} : ∀ {es : List (Value × Value)} {n m : Nat}, afindKey d k es n = some (some (m, v)) ↔
    ∃ l x r, es = l ++ x :: r ∧ m = n + l.length ∧ x.2 = v ∧ Instr.sameNow d k x.1 = some true ∧ ∀ y ∈ l ++ r, Instr.sameNow d k y.1 = some false
  | [], n, m => by
    constructor
    · intro h; cases h
    · rintro ⟨l, x, r, h, _⟩; cases l <;> cases h
  | e :: es, n, m => by
    unfold afindKey
    constructor
    · intro h
      split at h
      · rename_i h1
        split at h
        · rename_i h2
          simp only [Option.some.injEq, Prod.mk.injEq] at h
          exact ⟨[], e, es, rfl, by simp [h.1], h.2, h1, noneSame_iff.1 h2⟩
        · cases h
      · rename_i h1
        obtain ⟨l, x, r, rfl, rfl, h3, h4, h5⟩ := afindKey_some.1 h
        refine ⟨e :: l, x, r, rfl, by simp; omega, h3, h4, fun y hy => ?_⟩
        simp only [List.cons_append, List.mem_cons] at hy
        rcases hy with rfl | hy
        · exact h1
        · exact h5 y hy
      · cases h
    · rintro ⟨l, x, r, h, rfl, h3, h4, h5⟩
      cases l with
      | nil =>
        simp only [List.nil_append, List.cons.injEq] at h
        obtain ⟨rfl, rfl⟩ := h
        rw [h4]
        simp only
        rw [noneSame_iff.2 (by simpa using h5)]
        simp [h3]
      | cons y l =>
        simp only [List.cons_append, List.cons.injEq] at h
        obtain ⟨rfl, rfl⟩ := h
        rw [h5 e (by simp)]
        simp only
        rw [afindKey_some]
        exact ⟨l, x, r, rfl, by simp; omega, h3, h4, fun z hz => h5 z (by simp only [List.cons_append, List.mem_cons]; exact .inr hz)⟩

theorem afindKey_perm_none {d : TypeDesc} {k : Value} {es es' : List (Value × Value)} (hp : es.Perm es') (h : afindKey d k es 0 = some none) : afindKey d k es' 0 = some none :=
  afindKey_none.2 fun x hx => afindKey_none.1 h x (hp.mem_iff.2 hx)

theorem afindKey_perm {d : TypeDesc} {k v : Value} {es es' : List (Value × Value)} (hp : es.Perm es') {i : Nat} (h : afindKey d k es 0 = some (some (i, v))) :
    ∃ i', afindKey d k es' 0 = some (some (i', v)) ∧ ∀ y, (es.set i y).Perm (es'.set i' y) := by
  obtain ⟨l, x, r, rfl, rfl, h3, h4, h5⟩ := afindKey_some.1 h
  obtain ⟨l', r', rfl⟩ := List.append_of_mem (hp.mem_iff.1 (show x ∈ l ++ x :: r by simp))
  have hp2 : (l ++ r).Perm (l' ++ r') := (List.perm_middle.symm.trans (hp.trans List.perm_middle)).cons_inv
  refine ⟨0 + l'.length, afindKey_some.2 ⟨l', x, r', rfl, rfl, h3, h4, fun y hy => h5 y (hp2.mem_iff.2 hy)⟩, fun y => ?_⟩
  have e1 : ∀ (a b : List (Value × Value)), (a ++ x :: b).set (0 + a.length) y = a ++ y :: b := fun a b => by simp
  rw [e1, e1]
  exact List.perm_middle.trans ((hp2.cons y).trans List.perm_middle.symm)

theorem sameNow_rel {m : Mp} {d : TypeDesc} {a a' b b' : Value} {r : Bool} (h : Instr.sameNow d a b = some r) (ha : VRel m a a') (hb : VRel m b b') : Instr.sameNow d a' b' = some r := by
  unfold Instr.sameNow at h
  split at h
  · cases ha; cases hb; exact h
  · cases ha; cases hb; exact h
  · cases ha; cases hb; exact h
  · cases h

theorem sameNow_bits {d : TypeDesc} {a b : Value} (h : Instr.sameNow d a b = some true) : Instr.sameBits 10000 b a = true := by
  unfold Instr.sameNow at h
  split at h
  · rename_i k x k' y
    split at h
    · rename_i e
      subst e
      simp only [Option.some.injEq, beq_iff_eq] at h
      subst h
      simp [Instr.sameBits]
    · cases h
  · rename_i x y
    simp only [Option.some.injEq] at h
    have e : x.data = y.data := eq_of_beq (show (x.data == y.data) = true from h)
    show (y.data == x.data) = true
    rw [e]
    exact beq_self_eq_true _
  · simp only [Option.some.injEq] at h
    have := LawfulBEq.eq_of_beq h
    subst this
    simp [Instr.sameBits]
  · cases h

theorem afindKey_conc {m : Mp} {d : TypeDesc} {k k' : Value} (hk : VRel m k k') : ∀ (es : List (Value × Value)) (ents : List MapEntry) (i : Nat) (r : Option (Nat × Value)),
    es.length = ents.length → (∀ (j : Nat) (x : Value × Value) (e : MapEntry), es[j]? = some x → ents[j]? = some e → VRel m x.1 e.key ∧ VRel m x.2 e.val) →
    afindKey d k es i = some r → ∃ r', Instr.findNow d k' ents i = some r' ∧
      ((r = none ∧ r' = none) ∨ ∃ j v v' e, r = some (i + j, v) ∧ r' = some (i + j, v') ∧ VRel m v v' ∧ ents[j]? = some e ∧ Instr.sameNow d k' e.key = some true)
  | [], ents, i, r, hl, _, h => by
    cases ents with
    | cons _ _ => simp at hl
    | nil => injection h with h; subst h; exact ⟨none, rfl, .inl ⟨rfl, rfl⟩⟩
  | x :: es, ents, i, r, hl, hr, h => by
    cases ents with
    | nil => simp at hl
    | cons e ents =>
      obtain ⟨h1, h2⟩ := hr 0 x e rfl rfl
      unfold afindKey at h
      split at h
      · rename_i hs
        split at h <;> try (cases h; done)
        injection h with h
        subst h
        have hs' := sameNow_rel hs hk h1
        exact ⟨some (i, e.val), by simp [Instr.findNow, hs'], .inr ⟨0, x.2, e.val, e, rfl, rfl, h2, rfl, hs'⟩⟩
      · rename_i hs
        have hs' := sameNow_rel hs hk h1
        obtain ⟨r', h3, h4⟩ := afindKey_conc hk es ents (i + 1) r (by simpa using hl) (fun j y f a b => hr (j + 1) y f (by simpa using a) (by simpa using b)) h
        refine ⟨r', by simp [Instr.findNow, hs', h3], ?_⟩
        rcases h4 with h4 | ⟨j, v, v', e', h5, h6, h7, h8, h9⟩
        · exact .inl h4
        · refine .inr ⟨j + 1, v, v', e', ?_, ?_, h7, by simpa using h8, h9⟩
          · rw [h5, show i + 1 + j = i + (j + 1) by omega]
          · rw [h6, show i + 1 + j = i + (j + 1) by omega]
      · cases h

theorem run_checkKey' {P : Program} {w : World} {kt : TypeId} {d : TypeDesc} {k : Value} (hd : P.underlying kt = some d) (hk : isKeyDesc d = true) (e : Bool) (n : Nat) :
    (Instr.checkKey e (n + 1) kt k).run P w = .ok () w := by
  have : d = .string ∨ ∃ i, d = .int i := by
    unfold isKeyDesc at hk
    split at hk
    · exact .inr ⟨_, rfl⟩
    · exact .inl rfl
    · cases hk
  unfold Instr.checkKey
  rw [Sem.run_bind, run_underlying hd]
  rcases this with rfl | ⟨i, rfl⟩ <;> rfl

theorem run_checkKey0 {P : Program} {w : World} {kt : TypeId} {d : TypeDesc} {k : Value} (hd : P.underlying kt = some d) (hk : isKeyDesc d = true) (e : Bool) :
    (Instr.checkKey e 10000 kt k).run P w = .ok () w := run_checkKey' hd hk e 9999

def amapZero (P : Program) (e : TypeId) (commaOk : Bool) : Option Value :=
  match P.info? e with
  | some i =>
    match i.zero with
    | some z => if groundV z then (if commaOk then (if scalarV z then some (.tuple #[z, .bool false]) else none) else some z) else none
    | none => none
  | none => none

/-- m[k]. -/
def alookup (P : Program) (A : AW) (t : TypeId) (x ix : Value) (commaOk : Bool) : Option Value :=
  match P.underlying t with
  | some (.map kt e) =>
    match P.underlying kt with
    | some d =>
      if isKeyDesc d then
        match x with
        | .map none => amapZero P e commaOk
        | .map (some r) =>
          match A.get r with
          | some (.map es _) =>
            match afindKey d ix es 0 with
            | some (some (_, v)) => some (if commaOk then .tuple #[v, .bool true] else v)
            | some none => amapZero P e commaOk
            | none => none
          | _ => none
        | _ => none
      else none
    | none => none
  | _ => none

theorem amapZero_conc {P : Program} {e : TypeId} {c : Bool} {v : Value} (h : amapZero P e c = some v) (m : Mp) :
    VRel m v v ∧ ∃ z, v = (if c then .tuple #[z, .bool false] else z) ∧ ∀ w, (zeroValue e).run P w = .ok z w := by
  unfold amapZero at h
  split at h <;> try (cases h; done)
  rename_i i hi
  split at h <;> try (cases h; done)
  rename_i z hz
  split at h <;> try (cases h; done)
  rename_i hg
  have hzv : ∀ w, (zeroValue e).run P w = .ok z w := fun w => by simp [zeroValue, typeInfo, hi, hz]
  cases c
  · simp only [Bool.false_eq_true, if_false, Option.some.injEq] at h
    subst h
    exact ⟨.of_ground hg m, z, rfl, hzv⟩
  · simp only [if_true] at h
    split at h <;> try (cases h; done)
    rename_i hs
    injection h with h
    subst h
    exact ⟨.of_ground (v := .tuple #[z, .bool false]) (show (#[z, Value.bool false] : Array Value).all scalarV = true by simp [hs]; rfl) m, z, rfl, hzv⟩

theorem VRel.pair {m : Mp} {a a' b b' : Value} (h : VRel m a a') (k : VRel m b b') : VRel m (.tuple #[a, b]) (.tuple #[a', b']) := by
  refine .tuple rfl fun i v v' h1 h2 => ?_
  match i with
  | 0 => simp at h1 h2; subst h1; subst h2; exact h
  | 1 => simp at h1 h2; subst h1; subst h2; exact k
  | i + 2 => simp at h1

theorem alookup_sound {P : Program} {m : Mp} {A : AW} {w : World} (hs : Sim m A w) {t : TypeId} {x x' ix ix' v : Value} {c : Bool} (h : alookup P A t x ix c = some v)
    (hx : VRel m x x') (hix : VRel m ix ix') : ∃ v', VRel m v v' ∧ ∀ w', (∀ b, b < w.heap.size → w'.heap[b]? = w.heap[b]?) → (Instr.lookup t x' ix' c).run P w' = .ok v' w' := by
  unfold alookup at h
  split at h <;> try (cases h; done)
  rename_i kt e hu
  split at h <;> try (cases h; done)
  rename_i d hd
  split at h <;> try (cases h; done)
  rename_i hkd
  split at h <;> try (cases h; done)
  · cases hx
    obtain ⟨h1, z, rfl, h2⟩ := amapZero_conc h m
    refine ⟨_, h1, fun w' _ => ?_⟩
    simp only [Instr.lookup, Sem.run_bind, run_underlying hu, Result.andThen_ok, Sem.run_pure, run_checkKey0 hd hkd, run_findKey hd (l := (#[] : Array MapEntry).toList) (k := ix') (a := none) (show Instr.findNow d ix' [] 0 = some none from rfl), h2]
  · rename_i r
    split at h <;> try (cases h; done)
    rename_i es own hg
    obtain ⟨p, hp, ents, clock, es', hpm, hh, hl, hrel⟩ := hs.obj _ _ hg
    cases hx with
    | map hx =>
      rename_i r'
      obtain ⟨p', hp', rfl⟩ := hx
      rw [hp] at hp'
      injection hp' with hp'
      subst hp'
      have hb : p.block < w.heap.size := (Array.getElem?_eq_some_iff.1 hh).1
      split at h
      · rename_i i v0 hf0
        obtain ⟨i', hf, _⟩ := afindKey_perm hpm hf0
        obtain ⟨r', h3, h4⟩ := afindKey_conc hix es' ents.toList 0 _ (by simpa using hl) (fun j y f a b => hrel j y f a (by simpa using b)) hf
        rcases h4 with ⟨h4, _⟩ | ⟨j, v1, v', e', h5, rfl, h7, _, _⟩
        · cases h4
        · injection h5 with h5
          injection h5 with h5 h6
          subst h6
          injection h with h
          subst h
          refine ⟨if c then .tuple #[v', .bool true] else v', ?_, fun w' he => ?_⟩
          · cases c
            · exact h7
            · exact .pair h7 (.bool true)
          · have hh' : w'.heap[p.block]? = some (.map ents clock) := by rw [he _ hb]; exact hh
            simp only [Instr.lookup, Sem.run_bind, run_underlying hu, Result.andThen_ok, Sem.run_pure, Go.MapKept.run_getObj_map hh', run_checkKey0 hd hkd, run_findKey hd h3]
      · rename_i hf0
        have hf := afindKey_perm_none hpm hf0
        obtain ⟨r', h3, h4⟩ := afindKey_conc hix es' ents.toList 0 _ (by simpa using hl) (fun j y f a b => hrel j y f a (by simpa using b)) hf
        rcases h4 with ⟨_, rfl⟩ | ⟨j, v1, v', e', h5, _⟩
        · obtain ⟨h1, z, rfl, h2⟩ := amapZero_conc h m
          refine ⟨_, h1, fun w' he => ?_⟩
          have hh' : w'.heap[p.block]? = some (.map ents clock) := by rw [he _ hb]; exact hh
          simp only [Instr.lookup, Sem.run_bind, run_underlying hu, Result.andThen_ok, Sem.run_pure, Go.MapKept.run_getObj_map hh', run_checkKey0 hd hkd, run_findKey hd h3, h2]
        · cases h5
      · cases h

/-! ### A map is made, and written -/

def amakeMap (P : Program) (A : AW) (t : TypeId) (x : Option Value) : Option (Value × AW) :=
  match x with
  | none => some (.map (some A.next), A.alloc (.map [] true))
  | some (.int _ _) =>
    match P.underlying t with
    | some (.map _ _) => some (.map (some A.next), A.alloc (.map [] true))
    | _ => none
  | _ => none

theorem newMap_evo {m : Mp} {A : AW} {w : World} (hs : Sim m A w) :
    Evo m A w (m.ext A.next ⟨w.heap.size, 0, 0, 0⟩) (A.alloc (.map [] true)) (w.alloc (.map #[] 0)) :=
  Evo.freshO hs (.map [] true) ⟨w.heap.size, 0, 0, 0⟩ rfl rfl rfl (by simp) (fun b hb => heapAllocOld w _ b hb) (Nat.le_refl _)
    ⟨#[], 0, [], List.Perm.nil, heapAllocNew w _, rfl, fun k x e h => by simp at h⟩

theorem amakeMap_sound {P : Program} {m : Mp} {A A1 : AW} {w : World} (hs : Sim m A w) {t : TypeId} {x x' : Option Value} {v : Value} (h : amakeMap P A t x = some (v, A1)) (hx : ORel m x x') :
    ∃ v' w' m', (Instr.makeMap t x').run P w = .ok v' w' ∧ Evo m A w m' A1 w' ∧ VRel m' v v' := by
  unfold amakeMap at h
  split at h
  · cases x' with
    | some _ => exact hx.elim
    | none =>
      simp only [Option.some.injEq, Prod.mk.injEq] at h
      obtain ⟨rfl, rfl⟩ := h
      refine ⟨.map (some w.heap.size), _, _, ?_, newMap_evo hs, .map ⟨⟨w.heap.size, 0, 0, 0⟩, by simp [Mp.ext], rfl⟩⟩
      simp only [Instr.makeMap, Sem.run_bind, Sem.run_pure, Result.andThen_ok, run_newObj]
      rfl
  · rename_i k n
    cases x' with
    | none => exact hx.elim
    | some x' =>
      split at h <;> try (cases h; done)
      rename_i kt e hu
      simp only [Option.some.injEq, Prod.mk.injEq] at h
      obtain ⟨rfl, rfl⟩ := h
      have hx' : VRel m (.int k n) x' := hx
      cases hx'
      refine ⟨.map (some w.heap.size), _, _, ?_, newMap_evo hs, .map ⟨⟨w.heap.size, 0, 0, 0⟩, by simp [Mp.ext], rfl⟩⟩
      simp only [Instr.makeMap, Sem.run_bind, run_underlying hu, Result.andThen_ok, run_asInt, Sem.run_pure, run_newObj]
      rfl
  · cases h

def amapUpdate (P : Program) (A : AW) (t : TypeId) (x k v : Value) : Option AW :=
  match P.underlying t, x with
  | some (.map kt _), .map (some r) =>
    match P.underlying kt, A.get r with
    | some d, some (.map es true) =>
      if isKeyDesc d then
        match afindKey d k es 0 with
        | some (some (i, _)) => some (A.set r (some (.map (es.set i (k, v)) true)))
        | some none => some (A.set r (some (.map (es ++ [(k, v)]) true)))
        | none => none
      else none
    | _, _ => none
  | _, _ => none

theorem amapUpdate_sound {P : Program} {m : Mp} {A A1 : AW} {w : World} (hs : Sim m A w) {t : TypeId} {x x' k k' v v' : Value} (h : amapUpdate P A t x k v = some A1)
    (hx : VRel m x x') (hk : VRel m k k') (hv : VRel m v v') : ∃ w', (Instr.mapUpdate t x' k' v').run P w = .ok () w' ∧ Evo m A w m A1 w' := by
  unfold amapUpdate at h
  split at h <;> try (cases h; done)
  rename_i kt e r hu
  split at h <;> try (cases h; done)
  rename_i d es hd hg
  split at h <;> try (cases h; done)
  rename_i hkd
  obtain ⟨p, hp, ents, clock, es', hpm, hh, hl, hrel⟩ := hs.obj _ _ hg
  have hb : p.block < w.heap.size := (Array.getElem?_eq_some_iff.1 hh).1
  cases hx with
  | map hx =>
    rename_i r'
    obtain ⟨p', hp', rfl⟩ := hx
    rw [hp] at hp'
    injection hp' with hp'
    subst hp'
    have other : ∀ (o : Obj) (j : Nat), j ≠ p.block → (w.heap.setIfInBounds p.block o)[j]? = w.heap[j]? := fun o j hj => by rw [Array.getElem?_setIfInBounds_ne (by omega)]
    have same : ∀ (o : Obj), (w.heap.setIfInBounds p.block o)[p.block]? = some o := fun o => by simp [hb]
    split at h
    · rename_i i0 v0 hf0
      injection h with h
      subst h
      obtain ⟨i, hf, hset⟩ := afindKey_perm hpm hf0
      obtain ⟨r', h3, h4⟩ := afindKey_conc hk es' ents.toList 0 _ (by simpa using hl) (fun j y f a b => hrel j y f a (by simpa using b)) hf
      rcases h4 with ⟨h4, _⟩ | ⟨j, v1, v'', e', h5, rfl, h7, h8, h9⟩
      · cases h4
      · injection h5 with h5
        injection h5 with h5 h6
        simp only [Nat.zero_add] at h5 h3
        subst h5
        have hi : i < ents.size := by
          have := (List.getElem?_eq_some_iff.1 h8).1
          simpa using this
        have h8' : ents[i]? = some e' := by simpa using h8
        have hkts : (Instr.keyThatStays (((ents[i]?).map (·.key)).getD k') k').run P w = .ok k' w := by
          simp [h8', Instr.keyThatStays, sameNow_bits h9]
        refine ⟨{ w with heap := w.heap.setIfInBounds p.block (.map (ents.modify i fun e => { e with key := k', val := v' }) clock) }, ?_, ?_⟩
        · simp only [Instr.mapUpdate, Sem.run_bind, run_underlying hu, Result.andThen_ok, Go.MapKept.run_getObj_map hh, run_checkKey0 hd hkd, run_findKey hd h3, hkts, Go.MapKept.run_setObj_map _ hh]
        · refine Evo.setO hs hg rfl rfl hp (by simp) rfl rfl rfl ⟨_, clock, es'.set i (k, v), hset _, same _, by simp [hl], fun j y f a b => ?_⟩ (other _)
          by_cases hji : i = j
          · subst hji
            rw [List.getElem?_set_self (by omega)] at a
            injection a with a
            subst a
            simp [Array.getElem?_modify, h8'] at b
            subst b
            exact ⟨hk, hv⟩
          · rw [List.getElem?_set_ne hji] at a
            rw [Array.getElem?_modify, if_neg hji] at b
            exact hrel j y f a b
    · rename_i hf0
      injection h with h
      subst h
      have hf := afindKey_perm_none hpm hf0
      obtain ⟨r', h3, h4⟩ := afindKey_conc hk es' ents.toList 0 _ (by simpa using hl) (fun j y f a b => hrel j y f a (by simpa using b)) hf
      rcases h4 with ⟨_, rfl⟩ | ⟨j, v1, v'', e', h5, _⟩
      · refine ⟨{ w with heap := w.heap.setIfInBounds p.block (.map (ents.push { key := k', val := v', born := clock }) (clock + 1)) }, ?_, ?_⟩
        · simp only [Instr.mapUpdate, Sem.run_bind, run_underlying hu, Result.andThen_ok, Go.MapKept.run_getObj_map hh, run_checkKey0 hd hkd, run_findKey hd h3, Go.MapKept.run_setObj_map _ hh]
        · refine Evo.setO hs hg rfl rfl hp (by simp) rfl rfl rfl ⟨_, clock + 1, es' ++ [(k, v)], hpm.append_right _, same _, by simp [hl], fun j y f a b => ?_⟩ (other _)
          rw [List.getElem?_append] at a
          rw [Array.getElem?_push] at b
          by_cases hj : j < es'.length
          · rw [if_pos hj] at a
            rw [if_neg (by omega)] at b
            exact hrel j y f a b
          · rw [if_neg hj] at a
            have hj' : j = es'.length := by
              have := (List.getElem?_eq_some_iff.1 a).1
              simp at this
              omega
            subst hj'
            rw [if_pos hl] at b
            simp at a b
            subst a; subst b
            exact ⟨hk, hv⟩
      · cases h5
    · cases h

/-! ### clear -/

theorem scalarV.oneCell {v : Value} (h : scalarV v = true) : v.oneCell' = true := by
  unfold scalarV at h
  split at h <;> first | rfl | (cases h; done)

def aclear (P : Program) (A : AW) (t : TypeId) (x : Value) : Option AW :=
  match P.underlying t, x with
  | some (.slice _), .slice none 0 0 => some A
  | some (.slice e), .slice (some p) n _ =>
    if n = 0 then some A else
    match P.info? e, A.get p.block with
    | some i, some (.cells cs true unit) =>
      match i.zero with
      | some z =>
        if z.cells.size = i.size ∧ 0 < i.size ∧ z.cells.toList.all scalarV ∧ p.off + n * i.size ≤ cs.length then
          some (A.set p.block (some (.cells (setCells cs p.off (azeros z.cells.toList n)) true unit)))
        else none
      | none => none
    | _, _ => none
  | _, _ => none

theorem aclear_sound {P : Program} {m : Mp} {A A1 : AW} {w : World} (hs : Sim m A w) {t ty : TypeId} {x x' : Value} (h : aclear P A t x = some A1) (hx : VRel m x x') :
    ∃ w', (Builtin.clear_ #[t] ty #[x']).run P w = .ok undef w' ∧ Evo m A w m A1 w' := by
  unfold aclear at h
  split at h <;> try (cases h; done)
  · rename_i e hu
    cases hx
    injection h with h
    subst h
    exact ⟨w, by simp [Builtin.clear_, run_underlying hu, undef], Evo.refl hs⟩
  · rename_i e p n c hu
    split at h
    · rename_i h0
      subst h0
      injection h with h
      subst h
      cases hx
      exact ⟨w, by simp [Builtin.clear_, run_underlying hu, undef], Evo.refl hs⟩
    · rename_i h0
      split at h <;> try (cases h; done)
      rename_i i cs unit hi hg
      split at h <;> try (cases h; done)
      rename_i z hz
      split at h <;> try (cases h; done)
      rename_i hc
      obtain ⟨hzs, hpos, hsc, hfit⟩ := hc
      injection h with h
      subst h
      cases hx with
      | slice hh h1 h2 =>
        rename_i p' cap'
        have ha : ARel m p p' := by
          rcases hh with hh | hh
          · exact hh.arel
          · omega
        obtain ⟨hsp, hsp', q, hm, hb, ho⟩ := ha
        have hzc := azeros_conc z.cells n (by omega)
        have hall := azeros_scalar hsc n
        have hlen : (azeros z.cells.toList n).length = n * i.size := by rw [length_azeros]; simp [hzs]
        obtain ⟨w', hr, ev⟩ := storeCells_rel (P := P) (o := p.off) hm (azeros z.cells.toList n) (azeros z.cells.toList n) 0 cs A w hs hg (.of_scalars hall m)
          (fun v hv => scalarV.oneCell (List.all_eq_true.1 hall v hv)) (by omega)
        have ea : p' = ⟨q.block, q.base + p.off, none⟩ := by rw [addr_eta p' hsp', hb, ho]
        subst ea
        refine ⟨w', ?_, by simpa using ev⟩
        have hzv : (zeroValue e).run P w = .ok z w := by simp [zeroValue, typeInfo, hi, hz]
        obtain ⟨n, rfl⟩ := Nat.exists_eq_succ_of_ne_zero h0
        have hzc' : (Builtin.zeroCells z.cells (n + 1)).toList = azeros z.cells.toList (n + 1) := hzc
        simp only [Builtin.clear_, List.getElem?_toArray, List.getElem?_cons_zero, Sem.run_bind, run_underlying hu, Result.andThen_ok, hzv, hzc', hr, Sem.run_pure]
        rfl

/-! ### append(s, make([]T, n)...): the translation hands the number in the place of the slice -/

def aappendZ (P : Program) (A : AW) (t u : TypeId) (s x : Value) : Option (Value × AW) :=
  match P.underlying t, P.underlying u, x with
  | some (.slice e), some (.int _), .int _ q =>
    match P.info? e with
    | some i =>
      match i.zero with
      | some z =>
        match appOlds A i.size s with
        | some (base, k, olds) =>
          if z.cells.size = i.size ∧ 0 < i.size ∧ z.cells.toList.all scalarV ∧ 0 ≤ q ∧ k + q.toNat ≤ 140737488355328 ∧ (k + q.toNat) * i.bytes ≤ 140737488355328 then
            if q.toNat = 0 then some (s, A)
            else some (.slice (some ⟨A.next, 0, none⟩) (k + q.toNat) (k + q.toNat), ((match base with | some a => A.set a.block none | none => A)).alloc (.cells (olds ++ azeros z.cells.toList q.toNat) true i.size))
          else none
        | none => none
      | none => none
    | none => none
  | _, _, _ => none

theorem run_appendZ_zero {P : Program} (w : World) (t tn ty e : TypeId) (i : TypeInfo) (kn kq : IntKind) (ht : P.underlying t = some (.slice e)) (htn : P.underlying tn = some (.int kn)) (hi : P.info? e = some i)
    (base : Option Addr) (n c : Nat) (hc : n ≤ c) : (Builtin.append_ #[t, tn] ty #[.slice base n c, .int kq 0]).run P w = .ok (.slice base n c) w := by
  have hw : IntKind.i64.wrap (0 : Int) = 0 := rfl
  cases base <;> simp [Builtin.append_, run_underlying ht, run_underlying htn, sizeOf, typeInfo, hi, asInt, asIntOf, hw, hc, storeCells]

theorem run_appendZ_room {P : Program} (w : World) (t tn ty e : TypeId) (i : TypeInfo) (z : Value) (kn kq : IntKind) (ht : P.underlying t = some (.slice e)) (htn : P.underlying tn = some (.int kn)) (hi : P.info? e = some i) (hz : i.zero = some z)
    (g o sLen sCap m : Nat) (cur : Array Value) (e' : TypeId) (hg : w.heap[g]? = some (.cells cur e' (0, 0))) (h0 : 0 < m) (hs : 0 < i.size) (h48 : m * i.bytes ≤ 281474976710656) (h63 : (m : Int) ≤ 9223372036854775807)
    (h1 : ∀ u ∈ (Builtin.zeroCells z.cells m).toList, u.oneCell' = true) (hroom : sLen + m ≤ sCap) (hfit : o + sLen * i.size + (Builtin.zeroCells z.cells m).toList.length ≤ cur.size) :
    (Builtin.append_ #[t, tn] ty #[.slice (some ⟨g, o, none⟩) sLen sCap, .int kq m]).run P w =
      .ok (.slice (some ⟨g, o, none⟩) (sLen + m) sCap) (w.setRow g (cur.toList.take (o + sLen * i.size) ++ (Builtin.zeroCells z.cells m).toList ++ cur.toList.drop (o + sLen * i.size + (Builtin.zeroCells z.cells m).toList.length)).toArray) := by
  have hk : m ≠ 0 := by omega
  have hw : IntKind.i64.wrap (m : Int) = m := wrap_i64 (by omega) h63
  have h48i : ¬ (281474976710656 < (m : Int) * (i.bytes : Int)) := by
    rw [← Int.natCast_mul]
    omega
  have hneg : ¬ ((m : Int) < 0) := by omega
  have hns : ¬ (m * i.size = 0) := Nat.mul_ne_zero hk (by omega)
  have hst := run_storeCells_at P g (o + sLen * i.size) e' (Builtin.zeroCells z.cells m).toList 0 cur w hg (by simpa using hfit) h1
  simp only [Nat.add_zero] at hst
  have ea : (⟨g, o, none⟩ : Addr).add (sLen * i.size) = ⟨g, o + sLen * i.size, none⟩ := addr_add _ _ rfl
  simp [Builtin.append_, run_underlying ht, run_underlying htn, sizeOf, typeInfo, zeroValue, hi, hz, asInt, asIntOf, hw, hneg, hns, h48i, hroom, ea, hst]

theorem appendZ_sound {P : Program} {m : Mp} {A A1 : AW} {w : World} (hs : Sim m A w) {t u ty : TypeId} {s x s' x' v : Value} (h : aappendZ P A t u s x = some (v, A1))
    (hvs : VRel m s s') (hvx : VRel m x x') :
    ∃ v' w' m', (Builtin.append_ #[t, u] ty #[s', x']).run P w = .ok v' w' ∧ Evo m A w m' A1 w' ∧ VRel m' v v' := by
  unfold aappendZ at h
  split at h <;> try (cases h; done)
  rename_i e kn kq q hu hun
  cases hvx
  split at h <;> try (cases h; done)
  rename_i i hi
  split at h <;> try (cases h; done)
  rename_i z hz
  split at h <;> try (cases h; done)
  rename_i base k olds ho
  split at h <;> try (cases h; done)
  rename_i hcond
  obtain ⟨hzs, hsz, hsc, hq0, hb1, hb2⟩ := hcond
  obtain ⟨n, rfl⟩ := Int.eq_ofNat_of_zero_le hq0
  simp only [Int.toNat_natCast] at h hb1 hb2
  by_cases hn0 : n = 0
  · subst hn0
    rw [if_pos rfl] at h
    simp only [Option.some.injEq, Prod.mk.injEq] at h
    obtain ⟨rfl, rfl⟩ := h
    have hs0 : ∃ b' n' c', s' = .slice b' n' c' ∧ n' ≤ c' := by
      unfold appOlds at ho
      split at ho
      · cases hvs; exact ⟨_, _, _, rfl, Nat.le_refl _⟩
      · cases hvs with
        | slice _ h1 h2 => exact ⟨_, _, _, rfl, Nat.le_trans h1 h2⟩
      · cases ho
    obtain ⟨b', n', c', rfl, hle⟩ := hs0
    exact ⟨_, w, m, run_appendZ_zero w t u ty e i kn kq hu hun hi b' n' c' hle, Evo.refl hs, hvs⟩
  · rw [if_neg hn0] at h
    simp only [Option.some.injEq, Prod.mk.injEq] at h
    obtain ⟨rfl, rfl⟩ := h
    have hzc : (Builtin.zeroCells z.cells n).toList = azeros z.cells.toList n := azeros_conc z.cells n (by omega)
    have hall := azeros_scalar hsc n
    have hone : ∀ v ∈ azeros z.cells.toList n, v.oneCell' = true := fun v hv => scalarV.oneCell (List.all_eq_true.1 hall v hv)
    have hnb : n * i.bytes ≤ 140737488355328 := Nat.le_trans (Nat.mul_le_mul_right _ (Nat.le_add_left n k)) hb2
    have hl : (Builtin.zeroCells z.cells n).toList.length = n * i.size := by rw [hzc, length_azeros]; simp [hzs]
    refine append_core hs (ts := #[t, u]) (X := .int kq n) (l' := (Builtin.zeroCells z.cells n).toList) (e := e) (i := i) (z := z) hzs hn0 hb1 hb2 hone hl (by rw [hzc]; exact .of_scalars hall m) ho hvs ?_ ?_ ?_
    · intro _ _ hk
      have := Go.Lib.run_append_nil_zeros (P := P) w t u ty e i z kq kn hu hun hi hz n (by omega) hsz (by omega) (by omega)
      simpa using this
    · intro b sLen sCap lo hk h1 h2 h3
      have hf := run_firstCells_some (P := P) w.drew i.size sLen b sLen sCap lo h1 (by simpa using h2)
      have := Go.Lib.run_append_grow_zeros (P := P) w t u ty e i z kq kn hu hun hi hz (some b) sLen sCap lo hf n (by omega) hsz h3 (by omega) (by omega) (growslice_fits h3 (by subst hk; exact hb2))
      simpa using this
    · intro g o sLen sCap cur e' h1 h2 h3
      exact run_appendZ_room w t u ty e i z kn kq hu hun hi hz g o sLen sCap n cur e' h1 (by omega) hsz (by omega) (by omega) (by rw [hzc]; exact hone) h2 h3

end Go.Stx

namespace Go.Stx
open Go
variable [Gl]
set_option linter.unusedSectionVars false

def aeqFields (P : Program) (eq : TypeId → Value → Value → Option Bool) (xs ys : Array Value) : List Field → Option Bool
  | [] => some true
  | f :: r =>
    if f.name = "_" then aeqFields P eq xs ys r else
    match apart P f.type xs f.offset, apart P f.type ys f.offset with
    | some a, some b =>
      match eq f.type a b, aeqFields P eq xs ys r with
      | some p, some q => some (p && q)
      | _, _ => none
    | _, _ => none

def aeqElems (P : Program) (eq : Value → Value → Option Bool) (e : TypeId) (size : Nat) (xs ys : Array Value) : List Nat → Option Bool
  | [] => some true
  | i :: r =>
    match apart P e xs (i * size), apart P e ys (i * size) with
    | some a, some b =>
      match eq a b, aeqElems P eq e size xs ys r with
      | some p, some q => some (p && q)
      | _, _ => none
    | _, _ => none

def aequal (P : Program) : Nat → TypeId → Value → Value → Option Bool
  | 0, _, _, _ => none
  | d + 1, t, x, y =>
    match P.underlying t, x, y with
    | some .bool, .bool a, .bool b => some (a == b)
    | some (.int _), .int k a, .int k' b => if k = k' then some (decide (a = b)) else none
    | some .string, .string a, .string b => some (a.toList == b.toList)
    | some (.struct fs), .agg xs, .agg ys => if P.stoodInHeld t then none else aeqFields P (aequal P d) xs ys fs.toList
    | some (.array n e), .agg xs, .agg ys =>
      match P.info? e with
      | some i => aeqElems P (aequal P d e) e i.size xs ys (List.range n)
      | none => none
    | _, _, _ => none

theorem eqFields_sound {P : Program} {m : Mp} {n d : Nat} (ih : ∀ (t : TypeId) (x y x' y' : Value) (r : Bool), aequal P n t x y = some r → VRel m x x' → VRel m y y' → ∀ w, (Op.equalIn d t x' y').run P w = .ok r w)
    {xs ys xs' ys' : Array Value} (hx : VRel m (.agg xs) (.agg xs')) (hy : VRel m (.agg ys) (.agg ys')) (w : World) : ∀ (fs : List Field) (r : Bool), aeqFields P (aequal P n) xs ys fs = some r →
    (Op.eqFields d xs' ys' fs).run P w = .ok r w
  | [], r, h => by injection h with h; subst h; rfl
  | f :: fs, r, h => by
    unfold aeqFields at h
    split at h
    · rename_i hn
      simp only [Op.eqFields, hn, ne_eq, not_true_eq_false, if_false]
      exact eqFields_sound ih hx hy w fs r h
    · rename_i hn
      split at h <;> try (cases h; done)
      rename_i a b ha hb
      split at h <;> try (cases h; done)
      rename_i p q hp hq
      injection h with h
      subst h
      obtain ⟨a', h1, h2⟩ := apart_sound (P := P) ha hx
      obtain ⟨b', h3, h4⟩ := apart_sound (P := P) hb hy
      have h5 := ih _ _ _ _ _ _ hp h1 h3 w
      have h6 := eqFields_sound ih hx hy w fs q hq
      simp only [Op.eqFields, ne_eq, hn, not_false_eq_true, if_true, Sem.run_bind, h2, h4, h5, Result.andThen_ok]
      cases p
      · rfl
      · simp only [Bool.not_true, Bool.false_eq_true, if_false, h6, Bool.true_and]

theorem eqElems_sound {P : Program} {m : Mp} {d size : Nat} {e : TypeId} {eq : Value → Value → Option Bool}
    (ih : ∀ (x y x' y' : Value) (r : Bool), eq x y = some r → VRel m x x' → VRel m y y' → ∀ w, (Op.equalIn d e x' y').run P w = .ok r w)
    {xs ys xs' ys' : Array Value} (hx : VRel m (.agg xs) (.agg xs')) (hy : VRel m (.agg ys) (.agg ys')) (w : World) : ∀ (is : List Nat) (r : Bool), aeqElems P eq e size xs ys is = some r →
    (Op.eqItems d e size xs' ys' is).run P w = .ok r w
  | [], r, h => by injection h with h; subst h; simp [Op.eqItems]
  | i :: is, r, h => by
    unfold aeqElems at h
    split at h <;> try (cases h; done)
    rename_i a b ha hb
    split at h <;> try (cases h; done)
    rename_i p q hp hq
    injection h with h
    subst h
    obtain ⟨a', h1, h2⟩ := apart_sound (P := P) ha hx
    obtain ⟨b', h3, h4⟩ := apart_sound (P := P) hb hy
    have h5 := ih _ _ _ _ _ hp h1 h3 w
    have h6 := eqElems_sound ih hx hy w is q hq
    simp only [Op.eqItems, Sem.run_bind, h2, h4, h5, Result.andThen_ok]
    cases p
    · simp
    · simp [h6]

theorem aequal_sound {P : Program} {m : Mp} : ∀ (n d : Nat) (t : TypeId) (x y x' y' : Value) (r : Bool), n ≤ d → aequal P n t x y = some r → VRel m x x' → VRel m y y' →
    ∀ w, (Op.equalIn d t x' y').run P w = .ok r w
  | 0, d, t, x, y, x', y', r, _, h, _, _, w => by cases h
  | n + 1, 0, t, x, y, x', y', r, hd, h, hx, hy, w => by omega
  | n + 1, d + 1, t, x, y, x', y', r, hd, h, hx, hy, w => by
    unfold aequal at h
    split at h <;> try (cases h; done)
    · rename_i hu
      cases hx; cases hy
      injection h with h
      subst h
      simp [Op.equalIn, run_underlying hu]
    · rename_i hu
      cases hx; cases hy
      split at h <;> try (cases h; done)
      rename_i hk
      injection h with h
      subst h; subst hk
      simp [Op.equalIn, run_underlying hu]
      rfl
    · rename_i hu
      cases hx; cases hy
      injection h with h
      subst h
      exact run_equalIn_string w d t _ _ hu
    · rename_i fs xs ys hu
      split at h <;> try (cases h; done)
      rename_i hp
      have hx0 := hx
      have hy0 := hy
      cases hx; cases hy
      have hfo : P.fieldsOf t = fs := by simp [Program.fieldsOf, hu]
      rw [run_equalIn_struct w d t _ _ (by rw [hfo]; exact hu) (by simpa using hp), hfo]
      exact eqFields_sound (fun t x y x' y' r h1 h2 h3 w => aequal_sound n d t x y x' y' r (by omega) h1 h2 h3 w) hx0 hy0 w _ _ h
    · rename_i k e xs ys hu
      split at h <;> try (cases h; done)
      rename_i i hi
      have hx0 := hx
      have hy0 := hy
      cases hx; cases hy
      rw [run_equalIn_array w d _ _ hu hi]
      have hce : P.cellsOf e = i.size := by simp [Program.cellsOf, hi]
      rw [hce]
      exact eqElems_sound (fun x y x' y' r h1 h2 h3 w => aequal_sound n d e x y x' y' r (by omega) h1 h2 h3 w) hx0 hy0 w _ _ h

theorem run_equalIn_fn_nil {P : Program} {t : TypeId} {x y : Array TypeId} {b : Bool} (d : Nat) (fn : Fn) (p q : Array Value) (hu : P.underlying t = some (.func x y b)) (w : World) :
    (Op.equalIn (d + 1) t (.func fn p q) .nilFunc).run P w = .ok false w := by
  simp [Op.equalIn, run_underlying hu]
theorem run_equalIn_nil_nil {P : Program} {t : TypeId} {x y : Array TypeId} {b : Bool} (d : Nat) (hu : P.underlying t = some (.func x y b)) (w : World) :
    (Op.equalIn (d + 1) t .nilFunc .nilFunc).run P w = .ok true w := by
  simp [Op.equalIn, run_underlying hu]

/-- Two operands, as 'abin', or two struct or array values compared. -/
def abin2 (P : Program) (op : BinOp) (t : TypeId) (x y : Value) : Option Value :=
  match x, y with
  | .agg xs, .agg ys =>
    if P.eqGuardType P.depth t then none else
    match op with
    | .eql => (aequal P 8 t (.agg xs) (.agg ys)).map .bool
    | .neq => (aequal P 8 t (.agg xs) (.agg ys)).map fun b => .bool (!b)
    | _ => none
  | .slice a _ _, .slice none 0 0 =>
    match op, P.underlying t with
    | .eql, some (.slice _) => some (.bool a.isNone)
    | .neq, some (.slice _) => some (.bool (!a.isNone))
    | _, _ => none
  | .map a, .map none =>
    match op, P.underlying t with
    | .eql, some (.map _ _) => some (.bool a.isNone)
    | .neq, some (.map _ _) => some (.bool (!a.isNone))
    | _, _ => none
  | .func _ _ _, .nilFunc =>
    match op, P.underlying t with
    | .eql, some (.func _ _ _) => some (.bool false)
    | .neq, some (.func _ _ _) => some (.bool true)
    | _, _ => none
  | .nilFunc, .nilFunc =>
    match op, P.underlying t with
    | .eql, some (.func _ _ _) => some (.bool true)
    | .neq, some (.func _ _ _) => some (.bool false)
    | _, _ => none
  | x, y => abin P op t x y

theorem abin2_sound {P : Program} {op : BinOp} {t : TypeId} {x y v : Value} (h : abin2 P op t x y = some v) {m : Mp} {x' y' : Value} (hx : VRel m x x') (hy : VRel m y y') (xo yo : Operand) (w : World) :
    (do eqGuard op t xo yo x' y'; binOp op t x' y' : Sem Value).run P w = .ok v w ∧ VRel m v v := by
  unfold abin2 at h
  split at h
  · rename_i xs ys
    split at h <;> try (cases h; done)
    rename_i hg
    have hx0 := hx
    have hy0 := hy
    cases hx; cases hy
    have hg' : P.eqGuardType P.depth t = false := by simpa using hg
    rw [Sem.run_bind, run_eqGuard_agg w op t xo yo _ _ hg', Result.andThen_ok]
    cases op <;> simp only at h <;> (try (cases h; done))
    · obtain ⟨r, h1, rfl⟩ := Option.map_eq_some_iff.1 h
      exact ⟨by rw [run_eql_struct, aequal_sound 8 10000 t _ _ _ _ r (by omega) h1 hx0 hy0 w]; rfl, by constructor⟩
    · obtain ⟨r, h1, rfl⟩ := Option.map_eq_some_iff.1 h
      exact ⟨by rw [run_neq_struct, aequal_sound 8 10000 t _ _ _ _ r (by omega) h1 hx0 hy0 w]; rfl, by constructor⟩
  · rename_i a n c
    have key : ∀ (a' : Option Addr) (n' c' : Nat) (e : TypeId), P.underlying t = some (.slice e) → (Op.equal t (.slice a' n' c') (.slice none 0 0)).run P w = .ok a'.isNone w := fun a' n' c' e hu => run_equal_slice_nil w t e a' n' c' hu
    have hx' : ∃ a' n' c', x' = .slice a' n' c' ∧ a'.isNone = a.isNone := by
      cases hx <;> exact ⟨_, _, _, rfl, rfl⟩
    obtain ⟨a', n', c', rfl, ha⟩ := hx'
    cases hy
    split at h
    · rename_i hu; injection h with h; subst h; exact ⟨by simp [eqGuard, binOp, key _ _ _ _ hu, ha], by constructor⟩
    · rename_i hu; injection h with h; subst h; exact ⟨by simp [eqGuard, binOp, key _ _ _ _ hu, ha], by constructor⟩
    · cases h
  · rename_i a
    have key : ∀ (a' : Option Nat) (k e : TypeId), P.underlying t = some (.map k e) → (Op.equal t (.map a') (.map none)).run P w = .ok a'.isNone w := fun a' k e hu => run_equal_map_nil w t k e a' hu
    have hx' : ∃ a', x' = .map a' ∧ a'.isNone = a.isNone := by
      cases hx <;> exact ⟨_, rfl, rfl⟩
    obtain ⟨a', rfl, ha⟩ := hx'
    cases hy
    split at h
    · rename_i hu; injection h with h; subst h; exact ⟨by simp [eqGuard, binOp, key _ _ _ hu, ha], by constructor⟩
    · rename_i hu; injection h with h; subst h; exact ⟨by simp [eqGuard, binOp, key _ _ _ hu, ha], by constructor⟩
    · cases h
  · cases hy
    cases hx
    split at h
    · rename_i hu; injection h with h; subst h; exact ⟨by simp [eqGuard, binOp, run_eql_of (run_equalIn_fn_nil _ _ _ _ hu w)], by constructor⟩
    · rename_i hu; injection h with h; subst h; exact ⟨by simp [eqGuard, binOp, run_eql_of (run_equalIn_fn_nil _ _ _ _ hu w)], by constructor⟩
    · cases h
  · cases hy
    cases hx
    split at h
    · rename_i hu; injection h with h; subst h; exact ⟨by simp [eqGuard, binOp, run_eql_of (run_equalIn_nil_nil _ hu w)], by constructor⟩
    · rename_i hu; injection h with h; subst h; exact ⟨by simp [eqGuard, binOp, run_eql_of (run_equalIn_nil_nil _ hu w)], by constructor⟩
    · cases h
  · exact abin_sound h hx hy xo yo w

end Go.Stx

namespace Go.Stx
open Go
variable [Gl]
set_option linter.unusedSectionVars false

abbrev Fr := Nat → Value
def upd (a : Fr) (i : Nat) (v : Value) : Fr := fun j => if j = i then v else a j
def putF (a : Fr) (d : Option Tmp) (v : Value) : Fr :=
  match d with
  | some i => upd a i v
  | none => a

def evF (a : Fr) : Operand → Value
  | .tmp t => a t
  | .const v => v
  | .global g => .pointer (some ⟨g, 0, none⟩)
  | .func f => .func (.func f) #[] #[]

/-- w' has all that w has. -/
def Ext (w w' : World) : Prop := ∀ b, b < w.heap.size → w'.heap[b]? = w.heap[b]?

theorem Ext.refl (w : World) : Ext w w := fun _ _ => rfl
theorem Ext.cell {w w' : World} (h : Ext w w') {a : Addr} {v : Value} (hc : w.cell? a = some v) : w'.cell? a = some v := by
  have hb := World.block_lt_of_cell? w a hc
  rw [World.cell?_of_block (h _ hb)]
  exact hc
theorem Ext.sim {m : Mp} {A : AW} {w w' : World} (h : Ext w w') (hs : Sim m A w) : Sim m A w' := by
  refine ⟨fun i o hi => ?_, hs.inj, hs.fresh, hs.low, fun b x hb => ?_, hs.lown, hs.glob⟩
  rotate_left
  · have h1 := hs.laid b x hb
    rw [h b (Array.getElem?_eq_some_iff.1 h1).1]; exact h1
  obtain ⟨p, h1, h2⟩ := hs.obj i o hi
  have hb := hs.blk hi h1
  exact ⟨p, h1, h2.heap (h _ hb)⟩

/-- A load gives the same value in every world that has all that w has. -/
theorem aload_ext {P : Program} {m : Mp} {A : AW} {w : World} (hs : Sim m A w) {t : TypeId} {p p' : Addr} {v : Value} (h : aload P A t p = some v) (hp : ARel m p p') :
    ∃ v', VRel m v v' ∧ ∀ w', Ext w w' → (loadVar t p').run P w' = .ok v' w' := by
  unfold aload at h
  split at h
  · rename_i cs hr ha
    obtain ⟨v', h1, h2⟩ := cell_rel hs hp hr (k := 0) (by simpa using h)
    have e : p'.add 0 = p' := by unfold Addr.add; simp
    rw [e] at h1
    refine ⟨v', h2, fun w' hx => ?_⟩
    simp only [loadVar, Sem.run_bind, run_isAgg ha, Result.andThen_ok, Bool.false_eq_true, if_false, run_load, hx.cell h1]
  · rename_i cs hr ha
    split at h
    · rename_i i hi
      split at h
      · rename_i hle
        injection h with h
        subst h
        obtain ⟨l', hl, h1, h2⟩ := row_conc hs hp hr i.size hle
        refine ⟨.agg l'.toArray, .of_LRel_agg h1, fun w' hx => ?_⟩
        have h3 := run_loadCells_list (P := P) w' p' l' (fun j v hv => hx.cell (h2 j v hv))
        rw [hl] at h3
        simp only [loadVar, Sem.run_bind, run_isAgg ha, Result.andThen_ok, if_true, run_sizeOf hi, h3, Sem.run_pure]
      · cases h
    · cases h
  · cases h

/-- An interface's value against a literal nil. -/
def aeqNil (P : Program) (op : BinOp) (t : TypeId) (x : Value) : Option Value :=
  match P.underlying t, op, x with
  | some (.interface _), .eql, .nilIface => some (.bool true)
  | some (.interface _), .neq, .nilIface => some (.bool false)
  | some (.interface _), .eql, .iface _ _ => some (.bool false)
  | some (.interface _), .neq, .iface _ _ => some (.bool true)
  | _, _, _ => none

theorem run_equalIn_nil_iface {P : Program} {t : TypeId} {ms : Array (String × TypeId)} (d : Nat) (hu : P.underlying t = some (.interface ms)) (w : World) :
    (Op.equalIn (d + 1) t .nilIface .nilIface).run P w = .ok true w := by simp [Op.equalIn, run_underlying hu]
theorem run_equalIn_iface_nil {P : Program} {t u : TypeId} {v : Value} {ms : Array (String × TypeId)} (d : Nat) (hu : P.underlying t = some (.interface ms)) (w : World) :
    (Op.equalIn (d + 1) t (.iface u v) .nilIface).run P w = .ok false w := by simp [Op.equalIn, run_underlying hu]

theorem aeqNil_sound {P : Program} {m : Mp} {op : BinOp} {t : TypeId} {x x' v : Value} (h : aeqNil P op t x = some v) (hx : VRel m x x') (xo : Operand) (w : World) :
    (do eqGuard op t xo (.const .nilIface) x' .nilIface; binOp op t x' .nilIface : Sem Value).run P w = .ok v w ∧ VRel m v v := by
  unfold aeqNil at h
  split at h
  · rename_i hu; injection h with h; subst h; cases hx
    exact ⟨by rw [eqGuard_nil_constR]; simp [binOp, run_eql_of (run_equalIn_nil_iface _ hu w)], by constructor⟩
  · rename_i hu; injection h with h; subst h; cases hx
    exact ⟨by rw [eqGuard_nil_constR]; simp [binOp, run_eql_of (run_equalIn_nil_iface _ hu w)], by constructor⟩
  · rename_i hu; injection h with h; subst h; cases hx
    exact ⟨by simp [eqGuard, binOp, run_eql_of (run_equalIn_iface_nil _ hu w)], by constructor⟩
  · rename_i hu; injection h with h; subst h; cases hx
    exact ⟨by simp [eqGuard, binOp, run_eql_of (run_equalIn_iface_nil _ hu w)], by constructor⟩
  · cases h

def au8s : List Value → Option (List Int)
  | [] => some []
  | .int .u8 n :: l => (au8s l).map (n :: ·)
  | _ :: _ => none

theorem au8s_eq (l : List Value) : ∀ (xs : List Int), au8s l = some xs → l = xs.map (Value.int .u8) := by
  induction l with
  | nil => intro xs h; injection h with h; subst h; rfl
  | cons v l ih =>
    intro xs h
    unfold au8s at h
    split at h
    · rename_i e; cases e
    · rename_i n l' e
      injection e with e1 e2
      subst e1; subst e2
      obtain ⟨ys, h1, rfl⟩ := Option.map_eq_some_iff.1 h
      rw [ih ys h1]; rfl
    · cases h

/-- A slice of bytes as a string. -/
def abytes (P : Program) (A : AW) (s d : TypeId) (x : Value) : Option Value :=
  match P.underlying s, P.underlying d, x with
  | some (.slice e), some .string, .slice (some p) n _ =>
    match P.underlying e, A.row p.block with
    | some (.int .u8), some row =>
      if p.off + n ≤ row.length then
        match au8s ((row.drop p.off).take n) with
        | some xs => some (.string (strOfNums xs))
        | none => none
      else none
    | _, _ => none
  | _, _, _ => none

theorem abytes_sound {P : Program} {m : Mp} {A : AW} {w : World} (hs : Sim m A w) {s d : TypeId} {x x' v : Value} (h : abytes P A s d x = some v) (hx : VRel m x x') :
    ∃ v', VRel m v v' ∧ ∀ w', Ext w w' → (convert s d x').run P w' = .ok v' w' := by
  unfold abytes at h
  split at h
  · rename_i e p n c hs0 hd0
    split at h
    · rename_i row he hrow
      split at h
      · rename_i hle
        split at h
        · rename_i xs hxs
          injection h with h; subst h
          have e1 := au8s_eq _ _ hxs
          have hlen : xs.length = n := by
            have := congrArg List.length e1
            simp at this; omega
          cases hx with
          | slice hr h1 h2 =>
            rename_i a' cap'
            refine ⟨_, by constructor, fun w' hw => ?_⟩
            rcases hr with hr | ⟨rfl, rfl, _⟩
            · obtain ⟨l', h3, h4, h5⟩ := row_conc hs hr.arel hrow n hle
              have ha := addr_eta a' hr.2.1
              rw [ha]
              refine run_convert_bytes_arg w' s e hs0 he a'.block a'.off n cap' xs hlen (fun i hi => ?_) d hd0
              have hv := h4.2 i (.int .u8 (xs.getD i 0)) (l'[i]'(by omega)) (by rw [e1]; simp [List.getD, List.getElem?_eq_getElem (show i < xs.length by omega)]) (List.getElem?_eq_getElem (by omega))
              have h6 := h5 i _ (List.getElem?_eq_getElem (by omega))
              rw [addr_add _ _ hr.2.1] at h6
              generalize l'[i] = z at hv h6
              cases hv
              exact hw.cell h6
            · have : xs = [] := List.eq_nil_of_length_eq_zero (by omega)
              subst this
              have ha : (convert s d (.slice (some a') 0 0)).run P w' = .ok (.string (strOfNums [])) w' := by
                rw [run_convert_bytes_string w' s d e _ 0 0 hs0 he hd0, run_bytesToString w' _ 0 0 [] rfl]
                rfl
              exact ha
        · cases h
      · cases h
    · cases h
  · cases h

def aparts (r : Operand → Value) (ps : Array (Nat × Operand)) : List (Nat × Value) := ps.toList.map fun x => (x.1, r x.2)

/-- The operations that leave the memory alone. -/
def aq (P : Program) (A : AW) (r : Operand → Value) : Op → Option Value
  | .move x => some (r x)
  | .assign x => some (r x)
  | .pick c x y =>
    match r c with
    | .bool b => some (if b then r x else r y)
    | _ => none
  | .build t ps => abuild P t (aparts r ps)
  | .load t x =>
    match r x with
    | .pointer (some p) => aload P A t p
    | _ => none
  | .nilCheck x =>
    match r x with
    | .pointer (some p) => some (.pointer (some p))
    | _ => none
  | .binOp op t x y _ =>
    match y, r y with
    | .const .nilIface, .nilIface => aeqNil P op t (r x)
    | _, _ => abin2 P op t (r x) (r y)
  | .unOp op _ x => aun op (r x)
  | .convert s d x =>
    match aconv P s d (r x) with
    | some v => some v
    | none => abytes P A s d (r x)
  | .makeInterface t x => amakeIface P t (r x)
  | .slice t x lo hi mx =>
    match mx with
    | none => aslice P A t (r x) (lo.map r) (hi.map r) none
    | some q => aslice0 P t (r x) (lo.map r) (hi.map r) (r q)
  | .lookup t x ix c => alookup P A t (r x) (r ix) c
  | .fieldAddr s x f => afieldAddr P s (r x) f
  | .field t x f => afield P t (r x) f
  | .indexAddr t x ix => aindexAddr P t (r x) (r ix)
  | .index t x ix => aindex P t (r x) (r ix)
  | .extract t i =>
    match r t with
    | .tuple vs => vs[i]?
    | _ => none
  | .makeFunc fn fs cs => some (.func fn (fs.map r) (cs.map r))
  | .call c =>
    match c.callee, c.args.toList, c.argTypes.toList with
    | .builtin .len, [x], [t] => alen P t (r x)
    | .builtin .min, [x, y], _ => amin false [r x, r y]
    | .builtin .max, [x, y], _ => amin true [r x, r y]
    | _, _, _ => none
  | _ => none

theorem ORel.map {m : Mp} {r r' : Operand → Value} (x : Option Operand) (h : ∀ y, x = some y → VRel m (r y) (r' y)) : ORel m (x.map r) (x.map r') := by
  cases x with
  | none => trivial
  | some y => exact h y rfl

theorem arr2 {α : Type} {a : Array α} {x y : α} (h : a.toList = [x, y]) : a = #[x, y] := by
  apply Array.ext'
  exact h
theorem arr1 {α : Type} {a : Array α} {x : α} (h : a.toList = [x]) : a = #[x] := by
  apply Array.ext'
  exact h

theorem aq_sound {P : Program} {m : Mp} {A : AW} {w : World} (hs : Sim m A w) {o : Oper} {r r' : Operand → Value} {v : Value} (hr : ∀ x ∈ o.op.operands, VRel m (r x) (r' x))
    (h : aq P A r o.op = some v) : ∃ v', VRel m v v' ∧ ∀ w', Ext w w' → (execOp r' o).run P w' = .ok (.value v') w' := by
  obtain ⟨dst, op, ty, pos, after, guard⟩ := o
  have lift : ∀ {s : Sem Value} {v' : Value} {w' : World}, s.run P w' = .ok v' w' → (do pure (.value (← s)) : Sem Next).run P w' = .ok (.value v') w' := fun {s v' w'} e => by
    simp only [Sem.run_bind, e, Result.andThen_ok, Sem.run_pure]
  cases op <;> simp only [aq] at h <;> (try (cases h; done))
  case move x =>
    injection h with h; subst h
    exact ⟨r' x, hr x (by simp [Op.operands]), fun w' _ => by simp [execOp]⟩
  case assign x =>
    injection h with h; subst h
    exact ⟨r' x, hr x (by simp [Op.operands]), fun w' _ => by simp [execOp]⟩
  case pick c x y =>
    have hc := hr c (by simp [Op.operands])
    split at h
    · rename_i b hb
      rw [hb] at hc
      injection h with h; subst h
      generalize hb' : r' c = c' at hc
      cases hc
      refine ⟨if b then r' x else r' y, ?_, fun w' _ => by simp [execOp, hb', asBool]⟩
      cases b
      · exact hr y (by simp [Op.operands])
      · exact hr x (by simp [Op.operands])
    · cases h
  case build t ps =>
    obtain ⟨v', h1, h2⟩ := abuild_sound (P := P) (m := m) (parts' := ps.map fun (i, x) => (i, r' x)) h (by simp [aparts]) (fun k p p' h1 h2 => by
      simp only [aparts, List.getElem?_map, Array.getElem?_toList, Option.map_eq_some_iff, Array.getElem?_map] at h1 h2
      obtain ⟨q, h3, rfl⟩ := h1
      obtain ⟨q', h4, rfl⟩ := h2
      rw [h3] at h4
      injection h4 with h4
      subst h4
      exact ⟨rfl, hr q.2 (by simp only [Op.operands, List.mem_toArray, List.mem_map]; exact ⟨q, Array.mem_toList_iff.2 (Array.mem_of_getElem? h3), rfl⟩)⟩)
    exact ⟨v', h1, fun w' _ => lift (h2 w')⟩
  case load t x =>
    have hx := hr x (by simp [Op.operands])
    split at h
    · rename_i p hp
      rw [hp] at hx
      generalize hb' : r' x = x' at hx
      cases hx with
      | ptr ha =>
        obtain ⟨v', h1, h2⟩ := aload_ext (P := P) hs h ha
        exact ⟨v', h1, fun w' hw => by simp [execOp, hb', Instr.loadAt, Instr.sureAddr, h2 w' hw]⟩
    · cases h
  case nilCheck x =>
    have hx := hr x (by simp [Op.operands])
    split at h
    · rename_i p hp
      rw [hp] at hx
      generalize hb' : r' x = x' at hx
      injection h with h; subst h
      cases hx with
      | ptr ha => exact ⟨_, .ptr ha, fun w' hw => by simp [execOp, hb']⟩
    · cases h
  case binOp op t x y ty' =>
    have hx := hr x (by simp [Op.operands])
    have hy := hr y (by simp [Op.operands])
    split at h
    · rename_i e
      rw [e] at hy
      have hy' : r' (.const .nilIface) = .nilIface := by generalize r' (.const .nilIface) = z at hy; cases hy; rfl
      exact ⟨v, (aeqNil_sound h hx x w).2, fun w' _ => lift (by rw [hy']; exact (aeqNil_sound h hx x w').1)⟩
    · exact ⟨v, (abin2_sound h hx hy x x w).2, fun w' _ => lift (abin2_sound h hx hy x _ w').1⟩
  case unOp op t x =>
    have hx := hr x (by simp [Op.operands])
    exact ⟨v, (aun_sound (P := P) h hx w).2, fun w' _ => lift (aun_sound h hx w').1⟩
  case convert s d x =>
    have hx := hr x (by simp [Op.operands])
    split at h
    · rename_i v0 h0
      injection h with h; subst h
      exact ⟨v0, (aconv_sound h0 hx w).2, fun w' _ => lift (aconv_sound h0 hx w').1⟩
    · obtain ⟨v', h1, h2⟩ := abytes_sound hs h hx
      exact ⟨v', h1, fun w' hw => lift (h2 w' hw)⟩
  case makeInterface t x =>
    obtain ⟨v', h1, h2⟩ := amakeIface_sound h (hr x (by simp [Op.operands]))
    exact ⟨v', h1, fun w' _ => lift (h2 w')⟩
  case slice t x lo hi mx =>
    cases mx with
    | none =>
      obtain ⟨v', h1, h2⟩ := aslice_sound hs (mx' := none) h (hr x (by simp [Op.operands])) (ORel.map (r' := r') lo fun y e => hr y (by simp [Op.operands, e])) (ORel.map (r' := r') hi fun y e => hr y (by simp [Op.operands, e])) trivial
      exact ⟨v', h1, fun w' _ => lift (h2 w')⟩
    | some q =>
      obtain ⟨v', h1, h2⟩ := aslice0_sound h (hr x (by simp [Op.operands])) (ORel.map (r' := r') lo fun y e => hr y (by simp [Op.operands, e])) (ORel.map (r' := r') hi fun y e => hr y (by simp [Op.operands, e])) (hr q (by simp [Op.operands]))
      exact ⟨v', h1, fun w' _ => lift (h2 w')⟩
  case lookup t x ix c =>
    obtain ⟨v', h1, h2⟩ := alookup_sound (P := P) hs h (hr x (by simp [Op.operands])) (hr ix (by simp [Op.operands]))
    exact ⟨v', h1, fun w' hw => lift (h2 w' hw)⟩
  case fieldAddr s x f =>
    obtain ⟨v', h1, h2⟩ := afieldAddr_sound h (hr x (by simp [Op.operands]))
    exact ⟨v', h1, fun w' _ => lift (h2 w')⟩
  case field t x f =>
    obtain ⟨v', h1, h2⟩ := afield_sound h (hr x (by simp [Op.operands]))
    exact ⟨v', h1, fun w' _ => lift (h2 w')⟩
  case indexAddr t x ix =>
    obtain ⟨v', h1, h2⟩ := aindexAddr_sound h (hr x (by simp [Op.operands])) (hr ix (by simp [Op.operands]))
    exact ⟨v', h1, fun w' _ => lift (h2 w')⟩
  case index t x ix =>
    obtain ⟨v', h1, h2⟩ := aindex_sound h (hr x (by simp [Op.operands])) (hr ix (by simp [Op.operands]))
    exact ⟨v', h1, fun w' _ => lift (h2 w')⟩
  case extract t i =>
    have hx := hr t (by simp [Op.operands])
    split at h
    · rename_i vs hp
      rw [hp] at hx
      generalize hb' : r' t = x' at hx
      cases hx with
      | tuple hsz h1 =>
        rename_i vs'
        have hlt : i < vs'.size := by rw [← hsz]; exact (Array.getElem?_eq_some_iff.1 h).1
        have e := Array.getElem?_eq_getElem hlt
        exact ⟨vs'[i], h1 i v _ h e, fun w' _ => by simp [execOp, hb', Instr.extract, e]⟩
    · cases h
  case makeFunc fn fs cs =>
    injection h with h; subst h
    refine ⟨.func fn (fs.map r') (cs.map r'), ?_, fun w' _ => by simp [execOp, Instr.makeFunc]⟩
    refine .func fn (by simp) (by simp) (fun i v v' h1 h2 => ?_) (fun i v v' h1 h2 => ?_)
    · simp only [Array.getElem?_map, Option.map_eq_some_iff] at h1 h2
      obtain ⟨q, h3, rfl⟩ := h1
      obtain ⟨q', h4, rfl⟩ := h2
      rw [h3] at h4
      injection h4 with h4
      subst h4
      exact hr q (by simp only [Op.operands, Array.mem_append]; exact .inl (Array.mem_of_getElem? h3))
    · simp only [Array.getElem?_map, Option.map_eq_some_iff] at h1 h2
      obtain ⟨q, h3, rfl⟩ := h1
      obtain ⟨q', h4, rfl⟩ := h2
      rw [h3] at h4
      injection h4 with h4
      subst h4
      exact hr q (by simp only [Op.operands, Array.mem_append]; exact .inr (Array.mem_of_getElem? h3))
  case call c =>
    obtain ⟨callee, args, argTypes⟩ := c
    split at h
    · rename_i x t h1 h2 h3
      simp only at h1 h2 h3
      subst h1
      have e2 := arr1 h2
      have e3 := arr1 h3
      subst e2; subst e3
      have hx := hr x (by simp [Op.operands, Call.operands])
      have hl := alen_sound (P := P) (ty := ty) h hx
      refine ⟨v, hl.1, fun w' _ => ?_⟩
      have := hl.2 w'
      simp [execOp, resolve, invoke, builtin, this]
    · rename_i x y h1 h2
      simp only at h1 h2
      subst h1
      have e2 := arr2 h2
      subst e2
      have hx := hr x (by simp [Op.operands, Call.operands])
      have hy := hr y (by simp [Op.operands, Call.operands])
      have hl := amin_sound (P := P) (ts := argTypes) (ty := ty) (l' := #[r' x, r' y]) h (.cons hx (.cons hy .nil))
      refine ⟨v, hl.1, fun w' _ => ?_⟩
      have := hl.2 w'
      simp only [Bool.false_eq_true, if_false] at this
      simp [execOp, resolve, invoke, builtin, this]
    · rename_i x y h1 h2
      simp only at h1 h2
      subst h1
      have e2 := arr2 h2
      subst e2
      have hx := hr x (by simp [Op.operands, Call.operands])
      have hy := hr y (by simp [Op.operands, Call.operands])
      have hl := amin_sound (P := P) (ts := argTypes) (ty := ty) (l' := #[r' x, r' y]) h (.cons hx (.cons hy .nil))
      refine ⟨v, hl.1, fun w' _ => ?_⟩
      have := hl.2 w'
      simp only [if_true] at this
      simp [execOp, resolve, invoke, builtin, this]
    · cases h

/-- The operations that make or write memory. -/
def ae (P : Program) (A : AW) (r : Operand → Value) : Op → Option (Value × AW)
  | .alloc t => aalloc P A t
  | .box _ x => some (abox A (r x))
  | .buildSlice t len ps => abuildSlice P A t len (aparts r ps)
  | .store t x y =>
    match r x with
    | .pointer (some p) =>
      match astore P A t p (r y) with
      | some A1 => some (undef, A1)
      | none => none
    | _ => none
  | .makeSlice t l c => amake P A t (r l) (r c)
  | .makeMap t x => amakeMap P A t (x.map r)
  | .mapUpdate t x k v =>
    match amapUpdate P A t (r x) (r k) (r v) with
    | some A1 => some (undef, A1)
    | none => none
  | .insert t x k v =>
    match amapUpdate P A t (r x) (r k) (r v) with
    | some A1 => some (undef, A1)
    | none => none
  | .call c =>
    match c.callee, c.args.toList, c.argTypes.toList with
    | .builtin .append, [s, x], [t, u] => if t = u then aappend P A t u (r s) (r x) else aappendZ P A t u (r s) (r x)
    | .builtin .clear, [x], [t] =>
      match aclear P A t (r x) with
      | some A1 => some (undef, A1)
      | none => none
    | _, _, _ => none
  | _ => none

/-- An operation yields a value, or nothing. -/
def Yield (P : Program) (r' : Operand → Value) (o : Oper) (w w' : World) (v' : Value) : Prop :=
  (execOp r' o).run P w = .ok (.value v') w' ∨ ((execOp r' o).run P w = .ok .skip w' ∧ v' = undef)

theorem ae_sound {P : Program} {m : Mp} {A A1 : AW} {w : World} (hs : Sim m A w) {o : Oper} {r r' : Operand → Value} {v : Value} (hr : ∀ x ∈ o.op.operands, VRel m (r x) (r' x))
    (h : ae P A r o.op = some (v, A1)) : ∃ v' w' m', Yield P r' o w w' v' ∧ Evo m A w m' A1 w' ∧ VRel m' v v' := by
  obtain ⟨dst, op, ty, pos, after, guard⟩ := o
  have lift : ∀ {s : Sem Value} {v' : Value} {w w' : World}, s.run P w = .ok v' w' → (do pure (.value (← s)) : Sem Next).run P w = .ok (.value v') w' := fun {s v' w w'} e => by
    simp only [Sem.run_bind, e, Result.andThen_ok, Sem.run_pure]
  cases op <;> simp only [ae] at h <;> (try (cases h; done))
  case alloc t =>
    obtain ⟨v', w', m', h1, h2, h3⟩ := aalloc_sound hs h
    exact ⟨v', w', m', .inl (lift h1), h2, h3⟩
  case box t x =>
    injection h with h
    obtain ⟨v', w', m', h1, h2, h3⟩ := abox_sound (P := P) hs t (hr x (by simp [Op.operands]))
    rw [h] at h2 h3
    exact ⟨v', w', m', .inl (lift h1), h2, h3⟩
  case buildSlice t len ps =>
    obtain ⟨v', w', m', h1, h2, h3⟩ := abuildSlice_sound (P := P) (m := m) hs (parts' := ps.map fun (i, x) => (i, r' x)) h (by simp [aparts]) (fun k p p' h1 h2 => by
      simp only [aparts, List.getElem?_map, Array.getElem?_toList, Option.map_eq_some_iff, Array.getElem?_map] at h1 h2
      obtain ⟨q, h3, rfl⟩ := h1
      obtain ⟨q', h4, rfl⟩ := h2
      rw [h3] at h4
      injection h4 with h4
      subst h4
      exact ⟨rfl, hr q.2 (by simp only [Op.operands, List.mem_toArray, List.mem_map]; exact ⟨q, Array.mem_toList_iff.2 (Array.mem_of_getElem? h3), rfl⟩)⟩)
    exact ⟨v', w', m', .inl (lift h1), h2, h3⟩
  case store t x y =>
    have hx := hr x (by simp [Op.operands])
    split at h
    · rename_i p hp
      rw [hp] at hx
      generalize hb' : r' x = x' at hx
      cases hx with
      | ptr ha =>
        rename_i p'
        split at h
        · rename_i A2 hst
          simp only [Option.some.injEq, Prod.mk.injEq] at h
          obtain ⟨rfl, rfl⟩ := h
          obtain ⟨w', h1, h2⟩ := astore_sound (P := P) hs hst ha (hr y (by simp [Op.operands]))
          refine ⟨undef, w', m, .inr ⟨?_, rfl⟩, h2, .tuple rfl (fun i v v' h => by simp at h)⟩
          simp only [execOp, Instr.storeAt, hb', Instr.sureAddr, Sem.run_bind, Sem.run_pure, Result.andThen_ok, h1]
        · cases h
    · cases h
  case makeSlice t l c =>
    obtain ⟨v', w', m', h1, h2, h3⟩ := amake_sound hs h (hr l (by simp [Op.operands])) (hr c (by simp [Op.operands]))
    exact ⟨v', w', m', .inl (lift h1), h2, h3⟩
  case makeMap t x =>
    obtain ⟨v', w', m', h1, h2, h3⟩ := amakeMap_sound (P := P) hs h (ORel.map (r' := r') x fun y e => hr y (by simp [Op.operands, e]))
    exact ⟨v', w', m', .inl (lift h1), h2, h3⟩
  case mapUpdate t x k y =>
    split at h
    · rename_i A2 hst
      simp only [Option.some.injEq, Prod.mk.injEq] at h
      obtain ⟨rfl, rfl⟩ := h
      obtain ⟨w', h1, h2⟩ := amapUpdate_sound (P := P) hs hst (hr x (by simp [Op.operands])) (hr k (by simp [Op.operands])) (hr y (by simp [Op.operands]))
      refine ⟨undef, w', m, .inr ⟨?_, rfl⟩, h2, .tuple rfl (fun i v v' h => by simp at h)⟩
      simp only [execOp, Sem.run_bind, Sem.run_pure, Result.andThen_ok, h1]
    · cases h
  case insert t x k y =>
    split at h
    · rename_i A2 hst
      simp only [Option.some.injEq, Prod.mk.injEq] at h
      obtain ⟨rfl, rfl⟩ := h
      obtain ⟨w', h1, h2⟩ := amapUpdate_sound (P := P) hs hst (hr x (by simp [Op.operands])) (hr k (by simp [Op.operands])) (hr y (by simp [Op.operands]))
      refine ⟨undef, w', m, .inr ⟨?_, rfl⟩, h2, .tuple rfl (fun i v v' h => by simp at h)⟩
      simp only [execOp, Sem.run_bind, Sem.run_pure, Result.andThen_ok, h1]
    · cases h
  case call c =>
    obtain ⟨callee, args, argTypes⟩ := c
    split at h
    rotate_left
    · rename_i x t h1 h2 h3
      simp only at h1 h2 h3
      subst h1
      have e2 := arr1 h2
      have e3 := arr1 h3
      subst e2; subst e3
      split at h <;> try (cases h; done)
      rename_i A2 hst
      simp only [Option.some.injEq, Prod.mk.injEq] at h
      obtain ⟨rfl, rfl⟩ := h
      obtain ⟨w', h1, h2⟩ := aclear_sound (P := P) (ty := ty) hs hst (hr x (by simp [Op.operands, Call.operands]))
      refine ⟨undef, w', m, .inl ?_, h2, .tuple rfl (fun i v v' h => by simp at h)⟩
      simp [execOp, resolve, invoke, builtin, h1]
    rotate_left
    · rename_i s x t u h1 h2 h3
      simp only at h1 h2 h3
      subst h1
      have e2 := arr2 h2
      have e3 := arr2 h3
      subst e2; subst e3
      have hsv := hr s (by simp [Op.operands, Call.operands])
      have hxv := hr x (by simp [Op.operands, Call.operands])
      split at h
      · obtain ⟨v', w', m', h1, h2, h3⟩ := append_sound (P := P) (ty := ty) hs h hsv hxv
        refine ⟨v', w', m', .inl ?_, h2, h3⟩
        simp [execOp, resolve, invoke, builtin, h1]
      · obtain ⟨v', w', m', h1, h2, h3⟩ := appendZ_sound (P := P) (ty := ty) hs h hsv hxv
        refine ⟨v', w', m', .inl ?_, h2, h3⟩
        simp [execOp, resolve, invoke, builtin, h1]
    · cases h

end Go.Stx

namespace Go.Stx
open Go
variable [Gl]
set_option linter.unusedSectionVars false
set_option linter.unusedVariables false

structure FRel (m : Mp) (n : Nat) (a : Fr) (ca : Act) : Prop where
  size : ca.tmps.size = n
  defers : ca.defers = []
  rel : ∀ i, i < n → VRel m (a i) (ca.tmps.getD i undef)
  glob : Globs m

theorem FRel.mono {m m' : Mp} (hm : Mp.le m m') {n : Nat} {a : Fr} {ca : Act} (h : FRel m n a ca) : FRel m' n a ca := ⟨h.size, h.defers, fun i hi => (h.rel i hi).mono hm, h.glob.mono hm⟩

theorem VRel.undef (m : Mp) : VRel m undef undef := .tuple rfl fun i v v' h => by simp at h

def opndOk (n : Nat) : Operand → Bool
  | .tmp t => decide (t < n)
  | .const v => groundV v
  | .global g => Gl.ok g
  | .func _ => true

def operOk (n : Nat) (o : Oper) : Bool :=
  o.op.operands.all (opndOk n) && (match o.dst with | some d => decide (d < n) | none => true)

def codeOk (n : Nat) : Code → Bool
  | .region _ ops _ => ops.all (operOk n)
  | .seq a b => codeOk n a && codeOk n b
  | .cond c a b => opndOk n c && codeOk n a && codeOk n b
  | .block _ b => codeOk n b
  | .loop b => codeOk n b
  | .skip => true
  | .exit _ => true
  | .ret => true
  | _ => false

theorem FRel.eval {m : Mp} {n : Nat} {a : Fr} {ca : Act} (h : FRel m n a ca) {x : Operand} (hx : opndOk n x = true) : VRel m (evF a x) (ca.eval x) := by
  cases x with
  | tmp t => exact h.rel t (by simpa [opndOk] using hx)
  | const v => exact VRel.of_ground (v := v) (by simpa [opndOk] using hx) m
  | global g =>
    exact .ptr ⟨rfl, rfl, _, h.glob g hx, rfl, (Nat.zero_add 0).symm⟩
  | func f => exact .func _ rfl rfl (fun i v v' h => by simp at h) (fun i v v' h => by simp at h)

theorem FRel.put {m : Mp} {n : Nat} {a : Fr} {ca : Act} (h : FRel m n a ca) {d : Option Tmp} (hd : ∀ i, d = some i → i < n) {v v' : Value} (hv : VRel m v v') :
    FRel m n (putF a d v) (ca.put d v') := by
  cases d with
  | none => exact h
  | some i =>
    refine ⟨by simp [Act.put, h.size], by simp [Act.put, h.defers], fun j hj => ?_, h.glob⟩
    have hi := hd i rfl
    simp only [putF, upd, Act.put]
    by_cases e : j = i
    · subst e
      rw [if_pos rfl]
      simp [Array.getD_eq_getD_getElem?, h.size, hi]
      exact hv
    · rw [if_neg e]
      have := h.rel j hj
      rw [Array.getD_eq_getD_getElem?] at this ⊢
      rw [Array.getElem?_setIfInBounds_ne (by omega)]
      exact this

/-! ### Calls -/

def callable (P : Program) (f : FuncId) : Bool :=
  match P.funcs[f]? with
  | some fn => !(fn.name == "runtime.NumGoroutine") && fn.body.isSome
  | none => false

/-- A call returns; R holds of its value and of the memory behind it. -/
def ACall (P : Program) (f : FuncId) (args : List Value) (A : AW) (R : Value → AW → Prop) : Prop :=
  callable P f = true ∧ ∀ (m : Mp) (w : World) (cargs : Array Value), Sim m A w → LRel m args cargs.toList →
    Calls P f cargs w fun e w' => ∃ v v' m' A', e = .returned v' ∧ Evo m A w m' A' w' ∧ VRel m' v v' ∧ R v A'

theorem ACall.mono {P : Program} {f : FuncId} {args : List Value} {A : AW} {R R' : Value → AW → Prop} (h : ACall P f args A R) (hR : ∀ v A', R v A' → R' v A') : ACall P f args A R' :=
  ⟨h.1, fun m w cargs hs hl => (h.2 m w cargs hs hl).mono fun _ _ ⟨v, v', m', A', h1, h2, h3, h4⟩ => ⟨v, v', m', A', h1, h2, h3, hR _ _ h4⟩⟩

def ACallK (P : Program) (op : Op) (r : Operand → Value) (A : AW) (k : Value → AW → Prop) : Prop :=
  match op with
  | .call c =>
    match c.callee with
    | .value x =>
      match r x with
      | .func (.func f) fs cs => ACall P f (fs.toList ++ c.args.toList.map r ++ cs.toList) A k
      | _ => False
    | _ => False
  | _ => False

def AStep (P : Program) (op : Op) (r : Operand → Value) (A : AW) (k : Value → AW → Prop) : Prop :=
  match aq P A r op with
  | some v => k v A
  | none =>
    match ae P A r op with
    | some (v, A1) => k v A1
    | none => ACallK P op r A k

theorem run_callFunc {P : Program} {f : FuncId} {args : Array Value} (h : callable P f = true) (w : World) : (callFunc f args).run P w = .ok (.enter f args) w := by
  unfold callable at h
  cases hf : P.funcs[f]? with
  | none => rw [hf] at h; cases h
  | some fn =>
    rw [hf] at h
    simp only [Bool.and_eq_true, Bool.not_eq_true'] at h
    obtain ⟨h1, h2⟩ := h
    cases hb : fn.body with
    | none => rw [hb] at h2; cases h2
    | some c =>
      have h1' : ¬ fn.name = "runtime.NumGoroutine" := by simpa using h1
      simp [callFunc, hf, h1', hb]

/-- One operation. -/
theorem wp_of_AStep {P : Program} {m : Mp} {A : AW} {w : World} (hs : Sim m A w) {o : Oper} {n : Nat} {a : Fr} {ca : Act} (hf : FRel m n a ca) (ho : operOk n o = true)
    {k : Value → AW → Prop} (h : AStep P o.op (evF a) A k) {K : Act → World → Prop} {Q : Exit → Act → World → Prop}
    (hK : ∀ v A' m' w' ca', k v A' → Evo m A w m' A' w' → FRel m' n (putF a o.dst v) ca' → K ca' w') : o.wp P ca w K Q := by
  simp only [operOk, Bool.and_eq_true] at ho
  obtain ⟨ho1, ho2⟩ := ho
  have hd : ∀ i, o.dst = some i → i < n := fun i e => by rw [e] at ho2; simpa using ho2
  have hr : ∀ x ∈ o.op.operands, VRel m (evF a x) (ca.eval x) := fun x hx => hf.eval (Array.all_eq_true_iff_forall_mem.1 ho1 x hx)
  unfold AStep at h
  split at h
  · rename_i v hv
    obtain ⟨v', h1, h2⟩ := aq_sound hs hr hv
    unfold Oper.wp
    rw [h2 w (Ext.refl w)]
    exact hK v A m w _ h (Evo.refl hs) (hf.put hd h1)
  · split at h
    · rename_i v A1 hv
      obtain ⟨v', w', m', h1, h2, h3⟩ := ae_sound hs hr hv
      unfold Oper.wp
      rcases h1 with h1 | ⟨h1, rfl⟩
      · rw [h1]
        exact hK v A1 m' w' _ h h2 ((hf.mono h2.ext).put hd h3)
      · rw [h1]
        exact hK v A1 m' w' _ h h2 ((hf.mono h2.ext).put hd h3)
    · unfold ACallK at h
      split at h
      · rename_i c hc
        split at h
        · rename_i x hx
          split at h
          · rename_i f fs cs hfv
            obtain ⟨hcall, h⟩ := h
            have hxv := hr x (by rw [hc]; simp [Op.operands, Call.operands, hx])
            rw [hfv] at hxv
            generalize hg : ca.eval x = x' at hxv
            cases hxv with
            | func _ hx1 hx2 hx3 hx4 =>
              rename_i fs' cs'
              have hrun : (execOp ca.eval o).run P w = .ok (.enter f (fs' ++ c.args.map ca.eval ++ cs')) w := by
                obtain ⟨dst, op, ty, pos, after, guard⟩ := o
                simp only at hc
                subst hc
                obtain ⟨callee, args, argTypes⟩ := c
                simp only at hx
                subst hx
                simp only [execOp, resolve, hg, Deferred.ofValue, invoke, Sem.run_bind, Sem.run_pure, Result.andThen_ok, run_callFunc hcall]
              unfold Oper.wp
              rw [hrun, Oper.upon_enter]
              have hargs : LRel m (fs.toList ++ c.args.toList.map (evF a) ++ cs.toList) (fs' ++ c.args.map ca.eval ++ cs').toList := by
                simp only [Array.toList_append, Array.toList_map]
                refine (LRel.append (LRel.append ⟨by simpa using hx1, fun i v v' h1 h2 => hx3 i v v' (by simpa using h1) (by simpa using h2)⟩ ⟨by simp, fun i v v' h1 h2 => ?_⟩) ⟨by simpa using hx2, fun i v v' h1 h2 => hx4 i v v' (by simpa using h1) (by simpa using h2)⟩)
                simp only [List.getElem?_map, Option.map_eq_some_iff] at h1 h2
                obtain ⟨q, h3, rfl⟩ := h1
                obtain ⟨q', h4, rfl⟩ := h2
                rw [h3] at h4
                injection h4 with h4
                subst h4
                refine hr q ?_
                rw [hc]
                simp only [Op.operands, Call.operands, Array.mem_append]
                exact .inr (Array.mem_toList_iff.1 (List.mem_of_getElem? h3))
              refine (h m w _ hs hargs).mono ?_
              rintro e w' ⟨v, v', m', A', rfl, ev, hv, hk⟩
              exact hK v A' m' w' _ hk ev ((hf.mono ev.ext).put hd hv)
          · exact h.elim
        · exact h.elim
      · exact h.elim

/-! ### Regions -/

def gval (ops : Array Oper) (a : Fr) (o : Oper) : Bool :=
  match o.guard with
  | none => true
  | some (j, want) =>
    match (ops[j]?).bind (·.dst) with
    | some d =>
      match a d with
      | .bool b => b == want
      | _ => false
    | none => false

theorem gval_conc {m : Mp} {n : Nat} {a : Fr} {ca : Act} (hf : FRel m n a ca) {ops : Array Oper} (hops : ops.all (operOk n) = true) (o : Oper) :
    Region.wanted o (yielded ops ca.tmps) = gval ops a o := by
  unfold Region.wanted gval
  cases o.guard with
  | none => rfl
  | some g =>
    obtain ⟨j, want⟩ := g
    simp only [yielded]
    cases hj : ops[j]? with
    | none => simp
    | some oj =>
      simp only [Option.bind_some]
      cases hd : oj.dst with
      | none => simp
      | some d =>
        simp only [Option.bind_some]
        have hok := Array.all_eq_true_iff_forall_mem.1 hops oj (Array.mem_of_getElem? hj)
        simp only [operOk, hd, Bool.and_eq_true, decide_eq_true_eq] at hok
        have hlt : d < ca.tmps.size := by rw [hf.size]; exact hok.2
        have hv := hf.rel d hok.2
        rw [Array.getD_eq_getD_getElem?, Array.getElem?_eq_getElem hlt, Option.getD_some] at hv
        rw [Array.getElem?_eq_getElem hlt]
        generalize a d = x at hv ⊢
        generalize ca.tmps[d] = y at hv ⊢
        cases hv <;> simp

def AOps (P : Program) (ops : Array Oper) (K : Fr → AW → Prop) : List Oper → Fr → AW → Prop
  | [], a, A => K a A
  | o :: rest, a, A =>
    if gval ops a o = true then AStep P o.op (evF a) A (fun v A' => AOps P ops K rest (putF a o.dst v) A')
    else AOps P ops K rest (putF a o.dst undef) A

theorem wpList_of_AOps {P : Program} {ops : Array Oper} {n : Nat} (hops : ops.all (operOk n) = true) {K : Fr → AW → Prop} {Q : Exit → Act → World → Prop} : ∀ (l : List Oper) (a : Fr) (A : AW) (m : Mp) (w : World) (ca : Act),
    (∀ o ∈ l, operOk n o = true) → AOps P ops K l a A → Sim m A w → FRel m n a ca →
    (∀ a' A' m' w' ca', K a' A' → Evo m A w m' A' w' → FRel m' n a' ca' → Q .normal ca' w') → wpList P ops Q l ca w
  | [], a, A, m, w, ca, _, h, hs, hf, hK => hK a A m w ca h (Evo.refl hs) hf
  | o :: rest, a, A, m, w, ca, hl, h, hs, hf, hK => by
    unfold AOps at h
    unfold wpList
    rw [gval_conc hf hops o]
    split at h
    · rename_i hg
      rw [if_pos hg]
      refine .inl (wp_of_AStep hs hf (hl o (by simp)) h ?_)
      intro v A' m' w' ca' hk ev hf'
      exact wpList_of_AOps hops rest _ _ m' w' ca' (fun x hx => hl x (by simp [hx])) hk ev.sim hf' (fun a2 A2 m2 w2 ca2 h1 h2 h3 => hK a2 A2 m2 w2 ca2 h1 (ev.trans h2) h3)
    · rename_i hg
      rw [if_neg hg]
      have ho := hl o (by simp)
      simp only [operOk, Bool.and_eq_true] at ho
      have hd : ∀ i, o.dst = some i → i < n := fun i e => by have := ho.2; rw [e] at this; simpa using this
      exact wpList_of_AOps hops rest _ _ m w _ (fun x hx => hl x (by simp [hx])) h hs (hf.put hd (VRel.undef m)) hK

/-! ### Code -/

def AWP (P : Program) (n : Nat) (c : Code) (Q : Exit → Fr → AW → Prop) (a : Fr) (A : AW) : Prop :=
  codeOk n c = true → ∀ (m : Mp) (w : World) (ca : Act), Sim m A w → FRel m n a ca →
    c.wp P (fun e ca' w' => ∃ m' a' A', Evo m A w m' A' w' ∧ FRel m' n a' ca' ∧ Q e a' A') ca w

section
variable {P : Program} {n : Nat} {Q : Exit → Fr → AW → Prop} {a : Fr} {A : AW}

theorem awp_mono {c : Code} {Q' : Exit → Fr → AW → Prop} (h : AWP P n c Q a A) (hq : ∀ e a A, Q e a A → Q' e a A) : AWP P n c Q' a A :=
  fun hok m w ca hs hf => wp_mono (h hok m w ca hs hf) fun e ca' w' ⟨m', a', A', h1, h2, h3⟩ => ⟨m', a', A', h1, h2, hq _ _ _ h3⟩

theorem awp_region {id : Nat} {ops : Array Oper} (h : AOps P ops (Q .normal) ops.toList a A) : AWP P n (.region id ops false) Q a A := by
  intro hok m w ca hs hf
  have hops : ops.all (operOk n) = true := hok
  refine wp_region_list (wpList_of_AOps hops _ _ _ m w ca (fun o ho => Array.all_eq_true_iff_forall_mem.1 hops o (Array.mem_toList_iff.1 ho)) h hs hf ?_)
  intro a' A' m' w' ca' hk ev hf'
  exact ⟨m', a', A', ev, hf', hk⟩

theorem awp_skip (h : Q .normal a A) : AWP P n .skip Q a A := fun _ m w ca hs hf => wp_skip ⟨m, a, A, Evo.refl hs, hf, h⟩
theorem awp_exit {id : Nat} (h : Q (.exit id) a A) : AWP P n (.exit id) Q a A := fun _ m w ca hs hf => wp_exit ⟨m, a, A, Evo.refl hs, hf, h⟩
theorem awp_ret (h : Q .ret a A) : AWP P n .ret Q a A := fun _ m w ca hs hf => wp_ret ⟨m, a, A, Evo.refl hs, hf, h⟩

def AThen (next : Fr → AW → Prop) (Q : Exit → Fr → AW → Prop) : Exit → Fr → AW → Prop
  | .normal, a, A => next a A
  | e, a, A => Q e a A

theorem awp_seq {x y : Code} (h : AWP P n x (AThen (AWP P n y Q) Q) a A) : AWP P n (.seq x y) Q a A := by
  intro hok m w ca hs hf
  simp only [codeOk, Bool.and_eq_true] at hok
  refine wp_seq (wp_mono (h hok.1 m w ca hs hf) ?_)
  rintro e ca' w' ⟨m', a', A', ev, hf', hq⟩
  cases e with
  | normal =>
    refine wp_mono (hq hok.2 m' w' ca' ev.sim hf') ?_
    rintro e ca2 w2 ⟨m2, a2, A2, ev2, hf2, hq2⟩
    exact ⟨m2, a2, A2, ev.trans ev2, hf2, hq2⟩
  | exit id => exact ⟨m', a', A', ev, hf', hq⟩
  | goto l => exact ⟨m', a', A', ev, hf', hq⟩
  | ret => exact ⟨m', a', A', ev, hf', hq⟩
  | panic ch => exact ⟨m', a', A', ev, hf', hq⟩
  | outgrown => exact ⟨m', a', A', ev, hf', hq⟩

/-- The rest of the code behind a name. -/
theorem awp_seq_k {x y : Code} (h : ∀ K : Fr → AW → Prop, (∀ a A, AWP P n y Q a A → K a A) → AWP P n x (AThen K Q) a A) : AWP P n (.seq x y) Q a A :=
  awp_seq (h _ fun _ _ h => h)

theorem awp_cond {c : Operand} {x y : Code} {b : Bool} (hc : evF a c = .bool b) (h1 : b = true → AWP P n x Q a A) (h2 : b = false → AWP P n y Q a A) : AWP P n (.cond c x y) Q a A := by
  intro hok m w ca hs hf
  simp only [codeOk, Bool.and_eq_true] at hok
  have hv := hf.eval hok.1.1
  rw [hc] at hv
  generalize hg : ca.eval c = x' at hv
  cases hv
  exact wp_cond_split hg (fun e => h1 e hok.1.2 m w ca hs hf) (fun e => h2 e hok.2 m w ca hs hf)

def ABlock (id : Nat) (Q : Exit → Fr → AW → Prop) : Exit → Fr → AW → Prop
  | .exit id', a, A => if id' = id then Q .normal a A else Q (.exit id') a A
  | e, a, A => Q e a A

theorem awp_block {id : Nat} {c : Code} (h : AWP P n c (ABlock id Q) a A) : AWP P n (.block id c) Q a A := by
  intro hok m w ca hs hf
  refine wp_block (wp_mono (h hok m w ca hs hf) ?_)
  rintro e ca' w' ⟨m', a', A', ev, hf', hq⟩
  cases e with
  | exit id' =>
    simp only [Exit.inBlock]
    simp only [ABlock] at hq
    split
    · rename_i e; rw [if_pos e] at hq; exact ⟨m', a', A', ev, hf', hq⟩
    · rename_i e; rw [if_neg e] at hq; exact ⟨m', a', A', ev, hf', hq⟩
  | normal => exact ⟨m', a', A', ev, hf', hq⟩
  | goto l => exact ⟨m', a', A', ev, hf', hq⟩
  | ret => exact ⟨m', a', A', ev, hf', hq⟩
  | panic ch => exact ⟨m', a', A', ev, hf', hq⟩
  | outgrown => exact ⟨m', a', A', ev, hf', hq⟩

/-- A loop: an invariant that bears a number, which every round lowers. -/
theorem awp_loop {c : Code} (I : Nat → Fr → AW → Prop) (n₀ : Nat) (h₀ : I n₀ a A)
    (round : ∀ k a A, I k a A → AWP P n c (AThen (fun a' A' => ∃ k', k' < k ∧ I k' a' A') Q) a A) : AWP P n (.loop c) Q a A := by
  intro hok m w ca hs hf
  refine wp_loop_ghost (fun k ca' w' => ∃ m' a' A', Evo m A w m' A' w' ∧ FRel m' n a' ca' ∧ I k a' A') n₀ ⟨m, a, A, Evo.refl hs, hf, h₀⟩ ?_
  rintro k ca' w' ⟨m', a', A', ev, hf', hI⟩
  refine wp_mono (round k a' A' hI hok m' w' ca' ev.sim hf') ?_
  rintro e ca2 w2 ⟨m2, a2, A2, ev2, hf2, hq⟩
  cases e with
  | normal =>
    obtain ⟨k', hlt, hI'⟩ := hq
    exact ⟨k', hlt, m2, a2, A2, ev.trans ev2, hf2, hI'⟩
  | exit id => exact ⟨m2, a2, A2, ev.trans ev2, hf2, hq⟩
  | goto l => exact ⟨m2, a2, A2, ev.trans ev2, hf2, hq⟩
  | ret => exact ⟨m2, a2, A2, ev.trans ev2, hf2, hq⟩
  | panic ch => exact ⟨m2, a2, A2, ev.trans ev2, hf2, hq⟩
  | outgrown => exact ⟨m2, a2, A2, ev.trans ev2, hf2, hq⟩

end

/-! ### Functions -/

def ares1 (P : Program) (a : Fr) (A : AW) : ResultVar → Option Value
  | .tmp t => some (a t)
  | .cell p t =>
    match a p with
    | .pointer (some q) => aload P A t q
    | _ => none

def aresL (P : Program) (a : Fr) (A : AW) : List ResultVar → Option (List Value)
  | [] => some []
  | r :: rs =>
    match ares1 P a A r, aresL P a A rs with
    | some v, some vs => some (v :: vs)
    | _, _ => none

def ares (P : Program) (a : Fr) (A : AW) (rs : List ResultVar) : Option Value :=
  match aresL P a A rs with
  | some [v] => some v
  | some vs => some (.tuple vs.toArray)
  | none => none

def resOk (n : Nat) : ResultVar → Bool
  | .tmp t => decide (t < n)
  | .cell p _ => decide (p < n)

def resSem (tmps : Array Value) : ResultVar → Sem Value
  | .tmp t => pure (tmps.getD t undef)
  | .cell a t => do loadVar t (← asAddr (tmps.getD a undef))

theorem results_eq (fn : Func) (tmps : Array Value) :
    results fn tmps = (fn.results.mapM (resSem tmps) >>= fun vs => pure (if h : vs.size = 1 then vs[0] else .tuple vs) : Sem Value) := by
  unfold results
  congr 2

theorem ares1_sound {P : Program} {m : Mp} {A : AW} {w : World} (hs : Sim m A w) {n : Nat} {a : Fr} {ca : Act} (hf : FRel m n a ca) {r : ResultVar} (hok : resOk n r = true) {v : Value} (h : ares1 P a A r = some v) :
    ∃ v', VRel m v v' ∧ (resSem ca.tmps r).run P w = .ok v' w := by
  cases r with
  | tmp t =>
    injection h with h
    subst h
    exact ⟨_, hf.rel t (by simpa [resOk] using hok), rfl⟩
  | cell p t =>
    simp only [ares1] at h
    split at h
    · rename_i q hq
      have hv := hf.rel p (by simpa [resOk] using hok)
      rw [hq] at hv
      generalize hg : ca.tmps.getD p undef = x' at hv
      cases hv with
      | ptr ha =>
        obtain ⟨v', h1, h2⟩ := aload_sound (P := P) hs h ha
        refine ⟨v', h2, ?_⟩
        simp only [resSem, hg, asAddr, Sem.run_bind, Sem.run_pure, Result.andThen_ok, h1]
    · cases h

theorem aresL_sound {P : Program} {m : Mp} {A : AW} {w : World} (hs : Sim m A w) {n : Nat} {a : Fr} {ca : Act} (hf : FRel m n a ca) : ∀ (rs : List ResultVar) (vs : List Value), rs.all (resOk n) = true →
    aresL P a A rs = some vs → ∃ vs', LRel m vs vs' ∧ (rs.mapM (resSem ca.tmps)).run P w = .ok vs' w
  | [], vs, _, h => by injection h with h; subst h; exact ⟨[], .nil, rfl⟩
  | r :: rs, vs, hok, h => by
    unfold aresL at h
    simp only [List.all_cons, Bool.and_eq_true] at hok
    split at h
    · rename_i v vs1 hv hvs
      injection h with h
      subst h
      obtain ⟨v', h1, h2⟩ := ares1_sound (P := P) hs hf hok.1 hv
      obtain ⟨vs', h3, h4⟩ := aresL_sound hs hf rs vs1 hok.2 hvs
      refine ⟨v' :: vs', .cons h1 h3, ?_⟩
      simp only [List.mapM_cons, Sem.run_bind, h2, Result.andThen_ok, h4, Sem.run_pure]
    · cases h

theorem ares_sound {P : Program} {m : Mp} {A : AW} {w : World} (hs : Sim m A w) {fn : Func} {n : Nat} {a : Fr} {ca : Act} (hf : FRel m n a ca) (hok : fn.results.toList.all (resOk n) = true) {v : Value}
    (h : ares P a A fn.results.toList = some v) : ∃ v', VRel m v v' ∧ (results fn ca.tmps).run P w = .ok v' w := by
  unfold ares at h
  cases hl : aresL P a A fn.results.toList with
  | none => rw [hl] at h; cases h
  | some vs =>
    obtain ⟨vs', h1, h2⟩ := aresL_sound (P := P) hs hf _ _ hok hl
    have h3 := run_mapM_array (P := P) _ fn.results vs' h2
    rw [hl] at h
    have hrun : ∀ (x : Value), (if h : vs'.toArray.size = 1 then vs'.toArray[0] else .tuple vs'.toArray) = x → (results fn ca.tmps).run P w = .ok x w := fun x e => by
      rw [results_eq, Sem.run_bind, h3]
      simp only [Result.andThen_ok, Sem.run_pure, e]
    split at h
    · rename_i u hu
      injection hu with hu
      injection h with h
      subst hu; subst h
      obtain ⟨v', t', rfl, hv, ht⟩ := h1.inv_cons
      have := ht.inv_nil
      subst this
      exact ⟨v', hv, hrun v' (by simp)⟩
    · rename_i us hne hu
      injection hu with hu
      injection h with h
      subst hu; subst h
      refine ⟨.tuple vs'.toArray, .tuple (by simpa using h1.1) (fun i x x' e1 e2 => h1.2 i x x' (by simpa using e1) (by simpa using e2)), hrun _ ?_⟩
      rw [dif_neg]
      intro e
      have e1 : vs'.length = 1 := by simpa using e
      rw [← h1.1] at e1
      obtain ⟨x, rfl⟩ := List.length_eq_one_iff.1 e1
      exact hne x rfl
    · rename_i hu; cases hu

def initF (args : List Value) : Fr := fun i => args.getD i undef

def fnOk (fn : Func) (nargs : Nat) : Bool :=
  decide (nargs ≤ fn.ntmps) && !(fn.name == "runtime.NumGoroutine") && fn.results.toList.all (resOk fn.ntmps) && (match fn.body with | some c => codeOk fn.ntmps c | none => false)

def APost (P : Program) (fn : Func) (R : Value → AW → Prop) : Exit → Fr → AW → Prop
  | .normal, a, A => ∃ v, ares P a A fn.results.toList = some v ∧ R v A
  | .ret, a, A => ∃ v, ares P a A fn.results.toList = some v ∧ R v A
  | _, _, _ => False

theorem acall_of_awp {P : Program} {f : FuncId} {fn : Func} {c : Code} {args : List Value} {A : AW} {R : Value → AW → Prop} (hf : P.funcs[f]? = some fn) (hb : fn.body = some c) (hok : fnOk fn args.length = true)
    (h : AWP P fn.ntmps c (APost P fn R) (initF args) A) : ACall P f args A R := by
  simp only [fnOk, hb, Bool.and_eq_true, decide_eq_true_eq, Bool.not_eq_true'] at hok
  obtain ⟨⟨⟨h1, h2⟩, h3⟩, h4⟩ := hok
  refine ⟨by simp [callable, hf, h2, hb], fun m w cargs hs hl => ?_⟩
  refine calls_of_wp hf hb (wp_mono (h h4 m w _ hs ?_) ?_)
  · have hsz : cargs.size = args.length := by have := hl.1; simp at this; omega
    refine ⟨by simp [hsz]; omega, rfl, fun i hi => ?_, hs.glob⟩
    simp only [initF, List.getD_eq_getElem?_getD, Array.getD_eq_getD_getElem?]
    by_cases hlt : i < args.length
    · have e1 := List.getElem?_eq_getElem hlt
      have hlt' : i < cargs.size := by omega
      have e2 : cargs.toList[i]? = some cargs[i] := by simp [hlt']
      rw [e1, Array.getElem?_append_left hlt', Array.getElem?_eq_getElem hlt']
      exact hl.2 i _ _ e1 e2
    · rw [List.getElem?_eq_none (by omega), Array.getElem?_append_right (by omega)]
      simp only [Option.getD_none]
      rw [Array.getElem?_replicate]
      split
      · exact VRel.undef m
      · exact VRel.undef m
  · rintro e ca' w' ⟨m', a', A', ev, hf', hq⟩
    have fin : ∀ (hx : ∃ v, ares P a' A' fn.results.toList = some v ∧ R v A'), ca'.defers = [] ∧ ∃ v, (results fn ca'.tmps).run P w' = .ok v w' ∧
        ∃ v0 v' m' A', Ending.returned v = .returned v' ∧ Evo m A w m' A' w' ∧ VRel m' v0 v' ∧ R v0 A' := by
      rintro ⟨v, hv, hR⟩
      obtain ⟨v', h5, h6⟩ := ares_sound ev.sim hf' h3 hv
      exact ⟨hf'.defers, v', h6, v, v', m', A', rfl, ev, h5, hR⟩
    cases e with
    | normal => exact fin hq
    | ret => exact fin hq
    | exit id => exact hq.elim
    | goto l => exact hq.elim
    | panic ch => exact hq.elim
    | outgrown => exact hq.elim

/-- What a variable holds may be looked at: it stays as it is. -/
theorem Sim.look {m : Mp} {A : AW} {w : World} (hs : Sim m A w) {g : Nat} {cs : List Value} {cur : Array Value} {e : TypeId} {fr : Nat × Nat} (hg : Gl.ok g = true) (hB : Gl.B g = some (.cells cur e fr))
    (hc : ∀ (k : Nat) (v : Value), cs[k]? = some v → cur[k]? = some v ∧ scalarV v = true) : Sim m (A.set g (some (.cells cs false 1))) w ∧ ∀ i o p, A.get i = some o → o.own = true → m i = some p → i ≠ g := by
  have hmg := hs.glob g hg
  have hne : ∀ i o p, A.get i = some o → o.own = true → m i = some p → i ≠ g := fun i o p hi ho hm e => by
    subst e
    rw [hmg] at hm
    injection hm with hm
    have := hs.lown i o _ hi ho hmg
    rw [hB] at this
    cases this
  have hlt : g < A.next := by
    rcases Nat.lt_or_ge g A.next with h | h
    · exact h
    · rw [hs.fresh g h] at hmg; cases hmg
  have old : ∀ {i o}, (A.set g (some (.cells cs false 1))).get i = some o → i ≠ g → A.get i = some o := fun {i o} h hi => by rwa [AW.set_get_ne hi] at h
  have new : ∀ {i o}, (A.set g (some (.cells cs false 1))).get i = some o → o.own = true → i ≠ g := fun {i o} h ho e => by
    subst e
    rw [AW.set_get_same] at h
    injection h with h
    subst h
    cases ho
  refine ⟨⟨?_, ?_, hs.fresh, ?_, hs.laid, ?_, hs.glob⟩, hne⟩
  · intro i o hi
    by_cases e1 : i = g
    · subst e1
      rw [AW.set_get_same] at hi
      injection hi with hi
      subst hi
      refine ⟨_, hmg, cur, e, fr, hs.laid _ _ hB, fun h => (by cases h), rfl, by simp [glSize, hB], fun k v hv => ?_⟩
      obtain ⟨h1, h2⟩ := hc k v hv
      exact ⟨v, by rw [Nat.zero_add]; exact h1, .of_scalar h2 m⟩
    · exact hs.obj i o (old hi e1)
  · intro i j o o' p p' hi ho hj hij hpi hpj
    have hi' := old hi (new hi ho)
    by_cases e1 : j = g
    · subst e1
      rw [hmg] at hpj
      injection hpj with hpj
      subst hpj
      intro e2
      have := hs.lown i o p hi' ho hpi
      rw [e2] at this
      rw [hB] at this
      cases this
    · exact hs.inj i j o o' p p' hi' ho (old hj e1) hij hpi hpj
  · intro i hi
    have hin : A.next ≤ i := hi
    rw [AW.set_get_ne (by omega)]
    exact hs.low i hin
  · intro i o p hi ho hm
    exact hs.lown i o p (old hi (new hi ho)) ho hm

theorem ACall.look {P : Program} {f : FuncId} {args : List Value} {A : AW} {g : Nat} {cs : List Value} {cur : Array Value} {e : TypeId} {fr : Nat × Nat} (hg : Gl.ok g = true) (hB : Gl.B g = some (.cells cur e fr))
    (hc : ∀ (k : Nat) (v : Value), cs[k]? = some v → cur[k]? = some v ∧ scalarV v = true) {R : Value → AW → Prop} (h : ACall P f args (A.set g (some (.cells cs false 1))) R) : ACall P f args A R := by
  refine ⟨h.1, fun m w cargs hs hl => ?_⟩
  obtain ⟨hs', hne⟩ := hs.look hg hB hc
  have own : ∀ b, OwnB m (A.set g (some (.cells cs false 1))) b ↔ OwnB m A b := fun b => by
    constructor
    · rintro ⟨i, o, p, hi, ho, hm, hb⟩
      by_cases e1 : i = g
      · subst e1
        rw [AW.set_get_same] at hi
        injection hi with hi
        subst hi
        cases ho
      · rw [AW.set_get_ne e1] at hi
        exact ⟨i, o, p, hi, ho, hm, hb⟩
    · rintro ⟨i, o, p, hi, ho, hm, hb⟩
      exact ⟨i, o, p, by rw [AW.set_get_ne (hne i o p hi ho hm)]; exact hi, ho, hm, hb⟩
  have hused : ∀ b, UsedB m (A.set g (some (.cells cs false 1))) b → UsedB m A b ∨ Gl.B b ≠ none := by
    rintro b ⟨i, o, p, hi, hm, hb⟩
    by_cases e1 : i = g
    · subst e1
      rw [hs.glob i hg] at hm
      injection hm with hm
      subst hm
      exact .inr (by rw [← hb]; show Gl.B i ≠ none; rw [hB]; exact Option.some_ne_none _)
    · rw [AW.set_get_ne e1] at hi
      exact .inl ⟨i, o, p, hi, hm, hb⟩
  refine (h.2 m w cargs hs' hl).mono ?_
  rintro e' w' ⟨v, v', m', A', rfl, ev, hv, hR⟩
  exact ⟨v, v', m', A', rfl, ⟨ev.ext, ev.sim, ev.next, ev.os, ev.tape, ev.output, ev.size, fun b hb ho => ev.out b hb (fun h => ho ((own b).1 h)), fun b hb => (ev.grow b hb).imp (own b).1 id, ev.keep, fun b hb => match ev.used b hb with | .inl h1 => (hused b h1).imp id .inr | .inr h1 => .inr h1⟩, hv, hR⟩

end Go.Stx

namespace Go.Stx
open Go
variable [Gl]
set_option linter.unusedSectionVars false
set_option linter.unusedVariables false

def AObj.ro : AObj → AObj
  | .cells cs _ u => .cells cs false u
  | .map es _ => .map es false

theorem AObj.ro_own (o : AObj) : o.ro.own = false := by cases o <;> rfl

theorem OMatch.ro {m : Mp} {w : World} {p : Pl} {o : AObj} (h : OMatch m w p o) : OMatch m w p o.ro := by
  cases o with
  | cells cs own u =>
    obtain ⟨cur, e, fr, h2, h3, h4⟩ := h
    exact ⟨cur, e, fr, h2, fun h => (by cases h), h4⟩
  | map es own => exact h

/-- The same memory, nothing of it ours. -/
def AW.ro (A : AW) : AW := { A with get := fun i => (A.get i).map AObj.ro }

theorem AW.ro_get {A : AW} {i : Nat} {cs : List Value} {own : Bool} {u : Nat} (h : A.get i = some (.cells cs own u)) : A.ro.get i = some (.cells cs false u) := by simp [AW.ro, h, AObj.ro]
theorem AW.ro_get_map {A : AW} {i : Nat} {es : List (Value × Value)} {own : Bool} (h : A.get i = some (.map es own)) : A.ro.get i = some (.map es false) := by simp [AW.ro, h, AObj.ro]

theorem AW.ro_inv {A : AW} {i : Nat} {o : AObj} (h : A.ro.get i = some o) : ∃ o', A.get i = some o' ∧ o = o'.ro := by
  simp only [AW.ro, Option.map_eq_some_iff] at h
  obtain ⟨o', h1, h2⟩ := h
  exact ⟨o', h1, h2.symm⟩

theorem Sim.ro {m : Mp} {A : AW} {w : World} (hs : Sim m A w) : Sim m A.ro w := by
  refine ⟨fun i o hi => ?_, fun i j o o' p p' hi ho => ?_, hs.fresh, fun i hi => ?_, hs.laid, fun i o p hi ho => ?_, hs.glob⟩
  · obtain ⟨o', hg, rfl⟩ := AW.ro_inv hi
    obtain ⟨p, h1, h2⟩ := hs.obj _ _ hg
    exact ⟨p, h1, h2.ro⟩
  · obtain ⟨o', hg, rfl⟩ := AW.ro_inv hi
    rw [AObj.ro_own] at ho
    cases ho
  · simp [AW.ro, hs.low i hi]
  · obtain ⟨o', hg, rfl⟩ := AW.ro_inv hi
    rw [AObj.ro_own] at ho
    cases ho

/-- Nothing that was there has turned. -/
structure Kept (w w' : World) : Prop where
  ext : Ext w w'
  os : w'.os = w.os
  tape : w'.tape = w.tape
  output : w'.output = w.output
  size : w.heap.size ≤ w'.heap.size

theorem Kept.refl (w : World) : Kept w w := ⟨Ext.refl w, rfl, rfl, rfl, Nat.le_refl _⟩
theorem Kept.trans {a b c : World} (h : Kept a b) (k : Kept b c) : Kept a c :=
  ⟨fun i hi => (k.ext i (Nat.lt_of_lt_of_le hi h.size)).trans (h.ext i hi), k.os.trans h.os, k.tape.trans h.tape, k.output.trans h.output, Nat.le_trans h.size k.size⟩
theorem Kept.evo {m : Mp} {A : AW} {w w' : World} (hs : Sim m A w) (h : Kept w w') : Evo m A w m A w' :=
  ⟨Mp.le_refl m, h.ext.sim hs, Nat.le_refl _, h.os, h.tape, h.output, h.size, fun b hb _ => h.ext b hb, fun _ h => .inl h, fun _ _ => rfl, fun _ h => .inl h⟩
theorem Kept.drew (w : World) : Kept w w.drew := ⟨fun _ _ => rfl, rfl, rfl, rfl, Nat.le_refl _⟩

/-- A call that only computes: one value, and nothing that was there has turned. -/
def APure (P : Program) (f : FuncId) (args : List Value) (A : AW) (v : Value) : Prop :=
  callable P f = true ∧ scalarV v = true ∧ ∀ (m : Mp) (w : World) (cargs : Array Value), Sim m A w → LRel m args cargs.toList → Calls P f cargs w fun e w' => e = .returned v ∧ Kept w w'

theorem VRel.eq_of_scalar {m : Mp} {v v' : Value} (hv : scalarV v = true) (h : VRel m v v') : v' = v := by
  cases h <;> first | rfl | (simp [scalarV] at hv; done)

theorem APure.of_call {P : Program} {f : FuncId} {args : List Value} {A : AW} {v : Value} (hv : scalarV v = true) (h : ACall P f args A.ro fun v' _ => v' = v) : APure P f args A v := by
  refine ⟨h.1, hv, fun m w cargs hs hl => (h.2 m w cargs hs.ro hl).mono ?_⟩
  rintro e w' ⟨u, u', m', A', rfl, ev, hr, rfl⟩
  have := hr.eq_of_scalar hv
  subst this
  refine ⟨rfl, ⟨fun b hb => ev.out b hb ?_, ev.os, ev.tape, ev.output, ev.size⟩⟩
  rintro ⟨i, o, p, hi, how, _⟩
  obtain ⟨o', _, rfl⟩ := AW.ro_inv hi
  rw [AObj.ro_own] at how
  cases how

theorem APure.call {P : Program} {f : FuncId} {args : List Value} {A : AW} {v : Value} (h : APure P f args A v) {R : Value → AW → Prop} (hR : R v A) : ACall P f args A R := by
  refine ⟨h.1, fun m w cargs hs hl => (h.2.2 m w cargs hs hl).mono ?_⟩
  rintro e w' ⟨rfl, hk⟩
  exact ⟨v, v, m, A, rfl, hk.evo hs, .of_scalar h.2.1 m, hR⟩

def APureK (P : Program) (op : Op) (r : Operand → Value) (A : AW) (k : Value → Prop) : Prop :=
  match op with
  | .call c =>
    match c.callee with
    | .value x =>
      match r x with
      | .func (.func f) fs cs => ∃ v, APure P f (fs.toList ++ c.args.toList.map r ++ cs.toList) A v ∧ k v
      | _ => False
    | _ => False
  | _ => False

def AQStep (P : Program) (op : Op) (r : Operand → Value) (A : AW) (k : Value → Prop) : Prop :=
  match aq P A r op with
  | some v => k v
  | none => APureK P op r A k

def AQOps (P : Program) (ops : Array Oper) (A : AW) (K : Fr → Prop) : List Oper → Fr → Prop
  | [], a => K a
  | o :: rest, a =>
    if gval ops a o = true then AQStep P o.op (evF a) A (fun v => AQOps P ops A K rest (putF a o.dst v))
    else AQOps P ops A K rest (putF a o.dst undef)

theorem quiet_of_AQStep {P : Program} {m : Mp} {A : AW} {w : World} (hs : Sim m A w) {o : Oper} {n : Nat} {a : Fr} {ca : Act} (hf : FRel m n a ca) (ho : operOk n o = true)
    {k : Value → Prop} (h : AQStep P o.op (evF a) A k) {K : Act → Prop} (hK : ∀ v ca', k v → FRel m n (putF a o.dst v) ca' → K ca') : o.quiet P ca (Kept w) K := by
  simp only [operOk, Bool.and_eq_true] at ho
  obtain ⟨ho1, ho2⟩ := ho
  have hd : ∀ i, o.dst = some i → i < n := fun i e => by rw [e] at ho2; simpa using ho2
  have hr : ∀ x ∈ o.op.operands, VRel m (evF a x) (ca.eval x) := fun x hx => hf.eval (Array.all_eq_true_iff_forall_mem.1 ho1 x hx)
  unfold AQStep at h
  split at h
  · rename_i v hv
    obtain ⟨v', h1, h2⟩ := aq_sound hs hr hv
    refine ⟨v', fun w' hw => ?_, hK v _ h (hf.put hd h1)⟩
    unfold Oper.quietAt
    rw [h2 w' hw.ext]
    exact ⟨rfl, rfl⟩
  · unfold APureK at h
    split at h
    · rename_i c hc
      split at h
      · rename_i x hx
        split at h
        · rename_i f fs cs hfv
          obtain ⟨v, ⟨hcall, hsc, h⟩, hk⟩ := h
          have hxv := hr x (by rw [hc]; simp [Op.operands, Call.operands, hx])
          rw [hfv] at hxv
          generalize hg : ca.eval x = x' at hxv
          cases hxv with
          | func _ hx1 hx2 hx3 hx4 =>
            rename_i fs' cs'
            refine ⟨v, fun w' hw => ?_, hK v _ hk (hf.put hd (.of_scalar hsc m))⟩
            have hrun : (execOp ca.eval o).run P w' = .ok (.enter f (fs' ++ c.args.map ca.eval ++ cs')) w' := by
              obtain ⟨dst, op, ty, pos, after, guard⟩ := o
              simp only at hc
              subst hc
              obtain ⟨callee, args, argTypes⟩ := c
              simp only at hx
              subst hx
              simp only [execOp, resolve, hg, Deferred.ofValue, invoke, Sem.run_bind, Sem.run_pure, Result.andThen_ok, run_callFunc hcall]
            unfold Oper.quietAt
            rw [hrun]
            refine ⟨rfl, ?_⟩
            have hargs : LRel m (fs.toList ++ c.args.toList.map (evF a) ++ cs.toList) (fs' ++ c.args.map ca.eval ++ cs').toList := by
              simp only [Array.toList_append, Array.toList_map]
              refine (LRel.append (LRel.append ⟨by simpa using hx1, fun i v v' h1 h2 => hx3 i v v' (by simpa using h1) (by simpa using h2)⟩ ⟨by simp, fun i v v' h1 h2 => ?_⟩) ⟨by simpa using hx2, fun i v v' h1 h2 => hx4 i v v' (by simpa using h1) (by simpa using h2)⟩)
              simp only [List.getElem?_map, Option.map_eq_some_iff] at h1 h2
              obtain ⟨q, h3, rfl⟩ := h1
              obtain ⟨q', h4, rfl⟩ := h2
              rw [h3] at h4
              injection h4 with h4
              subst h4
              refine hr q ?_
              rw [hc]
              simp only [Op.operands, Call.operands, Array.mem_append]
              exact .inr (Array.mem_toList_iff.1 (List.mem_of_getElem? h3))
            refine (h m w' _ (hw.ext.sim hs) hargs).mono ?_
            rintro e w'' ⟨rfl, hk'⟩
            exact ⟨rfl, hw.trans hk'⟩
        · exact h.elim
      · exact h.elim
    · exact h.elim

theorem wpQuiet_of_AQOps {P : Program} {ops : Array Oper} {n : Nat} (hops : ops.all (operOk n) = true) {m : Mp} {A : AW} {w : World} (hs : Sim m A w) {K : Fr → Prop} {Q : Act → Prop} :
    ∀ (l : List Oper) (a : Fr) (ca : Act), (∀ o ∈ l, operOk n o = true) → AQOps P ops A K l a → FRel m n a ca → (∀ a' ca', K a' → FRel m n a' ca' → Q ca') → wpQuiet P ops (Kept w) Q l ca
  | [], a, ca, _, h, hf, hK => hK a ca h hf
  | o :: rest, a, ca, hl, h, hf, hK => by
    unfold AQOps at h
    unfold wpQuiet
    rw [gval_conc hf hops o]
    split at h
    · rename_i hg
      rw [if_pos hg]
      refine quiet_of_AQStep hs hf (hl o (by simp)) h ?_
      intro v ca' hk hf'
      exact wpQuiet_of_AQOps hops hs rest _ ca' (fun x hx => hl x (by simp [hx])) hk hf' hK
    · rename_i hg
      rw [if_neg hg]
      have ho := hl o (by simp)
      simp only [operOk, Bool.and_eq_true] at ho
      have hd : ∀ i, o.dst = some i → i < n := fun i e => by have := ho.2; rw [e] at this; simpa using this
      exact wpQuiet_of_AQOps hops hs rest _ _ (fun x hx => hl x (by simp [hx])) h (hf.put hd (VRel.undef m)) hK

/-- A region that draws its order, all of whose operations only read or call what only computes. -/
theorem awp_draw {P : Program} {n : Nat} {Q : Exit → Fr → AW → Prop} {a : Fr} {A : AW} {id : Nat} {ops : Array Oper} (hm : P.follows .mixedOrders = true) (hB : Region.lexB .any ops = true)
    (h : AQOps P ops A (fun a' => Q .normal a' A) ops.toList a) : AWP P n (.region id ops true) Q a A := by
  intro hok m w ca hs hf
  have hops : ops.all (operOk n) = true := hok
  refine wp_region_quiet (C := Kept w) hm hB (Kept.drew w) (wpQuiet_of_AQOps hops hs _ _ ca (fun o ho => Array.all_eq_true_iff_forall_mem.1 hops o (Array.mem_toList_iff.1 ho)) h hf ?_)
  intro a' ca' hq hf' w' hw
  exact ⟨m, a', A, hw.evo hs, hf', hq⟩

end Go.Stx

namespace Go.Stx
open Go
variable [Gl]
set_option linter.unusedSectionVars false
set_option linter.unusedVariables false

@[simp] theorem upd_apply (a : Fr) (i j : Nat) (v : Value) : upd a i v j = if j = i then v else a j := rfl
@[simp] theorem initF_zero (v : Value) (l : List Value) : initF (v :: l) 0 = v := rfl
@[simp] theorem initF_succ (v : Value) (l : List Value) (i : Nat) : initF (v :: l) (i + 1) = initF l i := rfl
@[simp] theorem putF_some (a : Fr) (i : Nat) (v : Value) : putF a (some i) v = upd a i v := rfl
@[simp] theorem putF_none (a : Fr) (v : Value) : putF a none v = a := rfl
@[simp] theorem evF_tmp (a : Fr) (t : Nat) : evF a (.tmp t) = a t := rfl
@[simp] theorem evF_const (a : Fr) (v : Value) : evF a (.const v) = v := rfl
@[simp] theorem evF_func (a : Fr) (f : FuncId) : evF a (.func f) = .func (.func f) #[] #[] := rfl
@[simp] theorem cells_int (k : IntKind) (n : Int) : (Value.int k n).cells = #[.int k n] := rfl
@[simp] theorem cells_bool (b : Bool) : (Value.bool b).cells = #[.bool b] := rfl
@[simp] theorem cells_string (s : ByteArray) : (Value.string s).cells = #[.string s] := rfl
@[simp] theorem cells_pointer (a : Option Addr) : (Value.pointer a).cells = #[.pointer a] := rfl
@[simp] theorem cells_slice (a : Option Addr) (n c : Nat) : (Value.slice a n c).cells = #[.slice a n c] := rfl
@[simp] theorem cells_map (r : Option Nat) : (Value.map r).cells = #[.map r] := rfl
@[simp] theorem cells_func (fn : Fn) (x y : Array Value) : (Value.func fn x y).cells = #[.func fn x y] := rfl
@[simp] theorem cells_nilFunc : Value.nilFunc.cells = #[.nilFunc] := rfl
@[simp] theorem cells_nilIface : Value.nilIface.cells = #[.nilIface] := rfl
@[simp] theorem cells_iface (t : TypeId) (v : Value) : (Value.iface t v).cells = #[.iface t v] := rfl
@[simp] theorem cells_agg (cs : Array Value) : (Value.agg cs).cells = cs := rfl
attribute [simp] setCells aputs azeros aparts abuildSlice aalloc abuild aputsP aplaces scalarV groundV
attribute [simp] alen aindexAddr aindex isAggT aload afield afieldAddr apart aslice abound amake abox amin amakeIface
attribute [simp] abin2 aslice0 alookup amakeMap amapUpdate afindKey amapZero isKeyDesc aclear aequal aeqFields aeqElems
attribute [simp] AStep AQStep aq ae AThen ABlock APost ares aresL ares1 abin aint isShift aun aconv

@[simp] theorem sameNow_int (k0 k : IntKind) (a b : Int) : Instr.sameNow (.int k0) (.int k a) (.int k b) = some (a == b) := by simp [Instr.sameNow]
@[simp] theorem AThen_normal (K : Fr → AW → Prop) (Q : Exit → Fr → AW → Prop) : AThen K Q .normal = K := rfl

/-! ### Operations without what does not matter -/

structure SOp where
  dst : Option Tmp
  op : Op
  guard : Option (Option Tmp × Bool)

def slimG (ops : Array Oper) (g : Option (Nat × Bool)) : Option (Option Tmp × Bool) := g.map fun x => ((ops[x.1]?).bind (·.dst), x.2)
def slimL (ops : Array Oper) (l : List Oper) : List SOp := l.map fun o => ⟨o.dst, o.op, slimG ops o.guard⟩
def slim (ops : Array Oper) : List SOp := slimL ops ops.toList

/-- Does the guard let it run? -/
def sg (a : Fr) (g : Option (Option Tmp × Bool)) : Bool :=
  match g with
  | none => true
  | some (some d, want) =>
    match a d with
    | .bool b => b == want
    | _ => false
  | some (none, _) => false

theorem sg_eq (ops : Array Oper) (a : Fr) (o : Oper) : gval ops a o = sg a (slimG ops o.guard) := by
  unfold gval sg slimG
  cases o.guard with
  | none => rfl
  | some g =>
    obtain ⟨j, want⟩ := g
    simp only [Option.map_some]
    cases (ops[j]?).bind (·.dst) <;> rfl

def SOps (P : Program) (K : Fr → AW → Prop) : List SOp → Fr → AW → Prop
  | [], a, A => K a A
  | o :: rest, a, A =>
    if sg a o.guard = true then AStep P o.op (evF a) A (fun v A' => SOps P K rest (putF a o.dst v) A')
    else SOps P K rest (putF a o.dst undef) A

def SQOps (P : Program) (A : AW) (K : Fr → Prop) : List SOp → Fr → Prop
  | [], a => K a
  | o :: rest, a =>
    if sg a o.guard = true then AQStep P o.op (evF a) A (fun v => SQOps P A K rest (putF a o.dst v))
    else SQOps P A K rest (putF a o.dst undef)

theorem SOps.aops {P : Program} {ops : Array Oper} {K : Fr → AW → Prop} : ∀ (l : List Oper) (a : Fr) (A : AW), SOps P K (slimL ops l) a A = AOps P ops K l a A
  | [], a, A => rfl
  | o :: rest, a, A => by
    simp only [slimL, List.map_cons, SOps, AOps, sg_eq]
    have ih := SOps.aops (P := P) (ops := ops) (K := K) rest
    simp only [slimL] at ih
    simp only [ih]

theorem SQOps.aqops {P : Program} {ops : Array Oper} {A : AW} {K : Fr → Prop} : ∀ (l : List Oper) (a : Fr), SQOps P A K (slimL ops l) a = AQOps P ops A K l a
  | [], a => rfl
  | o :: rest, a => by
    simp only [slimL, List.map_cons, SQOps, AQOps, sg_eq]
    have ih := SQOps.aqops (P := P) (ops := ops) (A := A) (K := K) rest
    simp only [slimL] at ih
    simp only [ih]

theorem AStep.mono {P : Program} {op : Op} {r : Operand → Value} {A : AW} {k k' : Value → AW → Prop} (h : ∀ v A', k v A' → k' v A') (hh : AStep P op r A k) : AStep P op r A k' := by
  unfold AStep at *
  split at hh
  · exact h _ _ hh
  · split at hh
    · exact h _ _ hh
    · unfold ACallK at *
      split at hh
      · split at hh
        · split at hh
          · exact hh.mono h
          · exact hh
        · exact hh
      · exact hh

theorem AQStep.mono {P : Program} {op : Op} {r : Operand → Value} {A : AW} {k k' : Value → Prop} (h : ∀ v, k v → k' v) (hh : AQStep P op r A k) : AQStep P op r A k' := by
  unfold AQStep at *
  split at hh
  · exact h _ hh
  · unfold APureK at *
    split at hh
    · split at hh
      · split at hh
        · obtain ⟨v, h1, h2⟩ := hh; exact ⟨v, h1, h _ h2⟩
        · exact hh
      · exact hh
    · exact hh

/-- One operation, the rest behind a name. -/
theorem sops_cons {P : Program} {K : Fr → AW → Prop} {o : SOp} {rest : List SOp} {a : Fr} {A : AW}
    (h : ∀ R : Fr → AW → Prop, (∀ a A, SOps P K rest a A → R a A) →
      if sg a o.guard = true then AStep P o.op (evF a) A (fun v A' => R (putF a o.dst v) A') else R (putF a o.dst undef) A) : SOps P K (o :: rest) a A :=
  h _ fun _ _ h => h
theorem sops_nil {P : Program} {K : Fr → AW → Prop} {a : Fr} {A : AW} (h : K a A) : SOps P K [] a A := h
theorem sqops_cons {P : Program} {A : AW} {K : Fr → Prop} {o : SOp} {rest : List SOp} {a : Fr}
    (h : ∀ R : Fr → Prop, (∀ a, SQOps P A K rest a → R a) →
      if sg a o.guard = true then AQStep P o.op (evF a) A (fun v => R (putF a o.dst v)) else R (putF a o.dst undef)) : SQOps P A K (o :: rest) a :=
  h _ fun _ h => h
theorem sqops_nil {P : Program} {A : AW} {K : Fr → Prop} {a : Fr} (h : K a) : SQOps P A K [] a := h

/-- A region, then the rest behind a name. -/
theorem awp_rs {P : Program} {n : Nat} {Q : Exit → Fr → AW → Prop} {a : Fr} {A : AW} {id : Nat} {ops : Array Oper} {y : Code}
    (h : ∀ K : Fr → AW → Prop, (∀ a A, AWP P n y Q a A → K a A) → SOps P K (slim ops) a A) : AWP P n (.seq (.region id ops false) y) Q a A :=
  awp_seq (awp_region (by rw [← SOps.aops]; exact h _ fun _ _ h => h))
/-- The same for a region that draws its order. -/
theorem awp_ds {P : Program} {n : Nat} {Q : Exit → Fr → AW → Prop} {a : Fr} {A : AW} {id : Nat} {ops : Array Oper} {y : Code} (hm : P.follows .mixedOrders = true) (hB : Region.lexB .any ops = true)
    (h : ∀ K : Fr → Prop, (∀ a, AWP P n y Q a A → K a) → SQOps P A K (slim ops) a) : AWP P n (.seq (.region id ops true) y) Q a A :=
  awp_seq (awp_draw hm hB (by rw [← SQOps.aqops]; exact h _ fun _ h => h))
theorem awp_r1 {P : Program} {n : Nat} {Q : Exit → Fr → AW → Prop} {a : Fr} {A : AW} {id : Nat} {ops : Array Oper}
    (h : ∀ K : Fr → AW → Prop, (∀ a A, Q .normal a A → K a A) → SOps P K (slim ops) a A) : AWP P n (.region id ops false) Q a A :=
  awp_region (by rw [← SOps.aops]; exact h _ fun _ _ h => h)
theorem awp_d1 {P : Program} {n : Nat} {Q : Exit → Fr → AW → Prop} {a : Fr} {A : AW} {id : Nat} {ops : Array Oper} (hm : P.follows .mixedOrders = true) (hB : Region.lexB .any ops = true)
    (h : ∀ K : Fr → Prop, (∀ a, Q .normal a A → K a) → SQOps P A K (slim ops) a) : AWP P n (.region id ops true) Q a A :=
  awp_draw hm hB (by rw [← SQOps.aqops]; exact h _ fun _ h => h)

attribute [simp] sg

/-- What holds between two pieces of code. -/
theorem awp_cut {P : Program} {n : Nat} {Q : Exit → Fr → AW → Prop} {a : Fr} {A : AW} {x y : Code} (J : Fr → AW → Prop) (h1 : AWP P n x (AThen J Q) a A) (h2 : ∀ a A, J a A → AWP P n y Q a A) :
    AWP P n (.seq x y) Q a A :=
  awp_seq (awp_mono h1 fun e a A h => by cases e <;> first | exact h2 a A h | exact h)

theorem ite_both {c : Prop} [Decidable c] {p q : Prop} (h1 : c → p) (h2 : ¬c → q) : if c then p else q := by
  split
  · exact h1 ‹_›
  · exact h2 ‹_›

/-! ### The memory -/

def AW.Wf (A : AW) : Prop := ∀ i, A.next ≤ i → A.get i = none
theorem AW.Wf.lt {A : AW} (h : A.Wf) {i : Nat} {o : AObj} (hg : A.get i = some o) : i < A.next := by
  rcases Nat.lt_or_ge i A.next with h1 | h1
  · exact h1
  · rw [h i h1] at hg; cases hg

@[simp] theorem AW.alloc_next (A : AW) (o : AObj) : (A.alloc o).next = A.next + 1 := rfl
@[simp] theorem AW.set_next (A : AW) (i : Nat) (o : Option AObj) : (A.set i o).next = A.next := rfl
@[simp] theorem AW.alloc_get_new (A : AW) (o : AObj) : (A.alloc o).get A.next = some o := by simp [AW.alloc]
theorem AW.alloc_get_at (A : AW) (o : AObj) {i : Nat} (h : i = A.next) : (A.alloc o).get i = some o := by simp [AW.alloc, h]
theorem AW.alloc_get_old (A : AW) (o : AObj) {i : Nat} (h : i ≠ A.next) : (A.alloc o).get i = A.get i := by simp [AW.alloc, h]
@[simp] theorem AW.set_get_eq (A : AW) (i : Nat) (o : Option AObj) : (A.set i o).get i = o := AW.set_get_same
theorem AW.set_get_at (A : AW) {i j : Nat} (o : Option AObj) (h : j = i) : (A.set i o).get j = o := by simp [AW.set, h]
theorem AW.row_of {A : AW} {i : Nat} {cs : List Value} {own : Bool} {u : Nat} (h : A.get i = some (.cells cs own u)) : A.row i = some cs := by simp [AW.row, h]

theorem AW.Wf.alloc {A : AW} (h : A.Wf) (o : AObj) : (A.alloc o).Wf := fun i hi => by
  simp only [AW.alloc_next] at hi
  rw [AW.alloc_get_old _ _ (by omega)]
  exact h i (by omega)
theorem AW.Wf.set {A : AW} (h : A.Wf) {i : Nat} (o : Option AObj) (hi : i < A.next) : (A.set i o).Wf := fun j hj => by
  simp only [AW.set_next] at hj
  rw [AW.set_get_ne (by omega)]
  exact h j hj

/-- The later memory has all that the earlier one has. -/
structure AW.le (A A' : AW) : Prop where
  next : A.next ≤ A'.next
  get : ∀ i, i < A.next → A'.get i = A.get i

theorem AW.le.refl (A : AW) : A.le A := ⟨Nat.le_refl _, fun _ _ => rfl⟩
theorem AW.le.trans {A B C : AW} (h : A.le B) (k : B.le C) : A.le C := ⟨Nat.le_trans h.next k.next, fun i hi => (k.get i (Nat.lt_of_lt_of_le hi h.next)).trans (h.get i hi)⟩
theorem AW.le.alloc (A : AW) (o : AObj) : A.le (A.alloc o) := ⟨by simp, fun i hi => AW.alloc_get_old _ _ (by omega)⟩
theorem AW.le.set {A B : AW} (h : A.le B) {i : Nat} (hi : A.next ≤ i) (o : Option AObj) : A.le (B.set i o) :=
  ⟨h.next, fun j hj => by rw [AW.set_get_ne (by omega)]; exact h.get j hj⟩
theorem AW.le.keep {A B : AW} (h : A.le B) (hw : A.Wf) {i : Nat} {o : AObj} (hg : A.get i = some o) : B.get i = some o := by rw [h.get i (hw.lt hg)]; exact hg

/-! ### Calls -/

theorem ACall.wf {P : Program} {f : FuncId} {args : List Value} {A : AW} {R : Value → AW → Prop} (h : ACall P f args A R) : ACall P f args A (fun v A' => R v A' ∧ A'.Wf ∧ A.next ≤ A'.next) :=
  ⟨h.1, fun m w cargs hs hl => (h.2 m w cargs hs hl).mono fun _ _ ⟨v, v', m', A', h1, h2, h3, h4⟩ => ⟨v, v', m', A', h1, h2, h3, h4, h2.sim.low, h2.next⟩⟩

/-- A function's contract, from the walk through its body. -/
theorem acall_intro {P : Program} {f : FuncId} {fn : Func} {c : Code} {args : List Value} {A : AW} {R : Value → AW → Prop} (hf : P.funcs[f]? = some fn) (hb : fn.body = some c) (hok : fnOk fn args.length = true)
    (h : A.Wf → AWP P fn.ntmps c (APost P fn R) (initF args) A) : ACall P f args A R := by
  have hcall : callable P f = true := by
    simp only [fnOk, hb, Bool.and_eq_true, decide_eq_true_eq, Bool.not_eq_true'] at hok
    simp [callable, hf, hok.1.1.2, hb]
  exact ⟨hcall, fun m w cargs hs hl => (acall_of_awp hf hb hok (h hs.low)).2 m w cargs hs hl⟩

/-- At a call: the callee's contract, then what follows. -/
theorem callK {P : Program} {f : FuncId} {args : List Value} {A : AW} {R k : Value → AW → Prop} (h : ACall P f args A R) (hk : ∀ v A', R v A' → A'.Wf → A.next ≤ A'.next → k v A') : ACall P f args A k :=
  h.wf.mono fun v A' ⟨h1, h2, h3⟩ => hk v A' h1 h2 h3

@[congr] theorem ACall_congr {P : Program} {f : FuncId} {args args' : List Value} {A : AW} {R : Value → AW → Prop} (h : args = args') : ACall P f args A R = ACall P f args' A R := by rw [h]
@[congr] theorem APure_congr {P : Program} {f : FuncId} {args args' : List Value} {A : AW} {v : Value} (h : args = args') : APure P f args A v = APure P f args' A v := by rw [h]
@[simp] theorem ACallK_call (P : Program) (x : Operand) (args : Array Operand) (ts : Array TypeId) (r : Operand → Value) (A : AW) (k : Value → AW → Prop) :
    ACallK P (.call ⟨.value x, args, ts⟩) r A k = match r x with
      | .func (.func f) fs cs => ACall P f (fs.toList ++ args.toList.map r ++ cs.toList) A k
      | _ => False := rfl
@[simp] theorem APureK_call (P : Program) (x : Operand) (args : Array Operand) (ts : Array TypeId) (r : Operand → Value) (A : AW) (k : Value → Prop) :
    APureK P (.call ⟨.value x, args, ts⟩) r A k = match r x with
      | .func (.func f) fs cs => ∃ v, APure P f (fs.toList ++ args.toList.map r ++ cs.toList) A v ∧ k v
      | _ => False := rfl

/-! ### Slices as lists -/

/-- v is a slice whose cells are cs (n elements of 'size' cells). -/
def IsSl (A : AW) (size : Nat) (v : Value) (n : Nat) (cs : List Value) : Prop :=
  ((∃ o, v = .slice o 0 0) ∧ n = 0 ∧ cs = []) ∨
  ∃ p c row own u, v = .slice (some p) n c ∧ n ≤ c ∧ A.get p.block = some (.cells row own u) ∧ u = size ∧ p.off + n * size ≤ row.length ∧ cs = (row.drop p.off).take (n * size)

theorem IsSl.length {A : AW} {size : Nat} {v : Value} {n : Nat} {cs : List Value} (h : IsSl A size v n cs) : cs.length = n * size := by
  rcases h with ⟨_, rfl, rfl⟩ | ⟨p, c, row, own, u, _, _, _, _, h1, rfl⟩
  · simp
  · simp; omega

theorem IsSl.le {A B : AW} (hl : A.le B) (hw : A.Wf) {size : Nat} {v : Value} {n : Nat} {cs : List Value} (h : IsSl A size v n cs) : IsSl B size v n cs := by
  rcases h with h | ⟨p, c, row, own, u, h1, h2, h3, h4⟩
  · exact .inl h
  · exact .inr ⟨p, c, row, own, u, h1, h2, hl.keep hw h3, h4⟩

/-- A slice of integers of kind k reads as the list l. -/
def IsInts (A : AW) (k : IntKind) (v : Value) (l : List Int) : Prop := IsSl A 1 v l.length (l.map (Value.int k))

theorem IsInts.le {A B : AW} (hl : A.le B) (hw : A.Wf) {k : IntKind} {v : Value} {l : List Int} (h : IsInts A k v l) : IsInts B k v l := IsSl.le hl hw h
theorem IsInts.nil (A : AW) (k : IntKind) : IsInts A k (.slice none 0 0) [] := .inl ⟨⟨none, rfl⟩, rfl, rfl⟩
theorem IsSl.ro {A : AW} {size : Nat} {v : Value} {n : Nat} {cs : List Value} (h : IsSl A size v n cs) : IsSl A.ro size v n cs := by
  rcases h with h | ⟨p, c, row, own, u, h1, h2, h3, h4⟩
  · exact .inl h
  · exact .inr ⟨p, c, row, false, u, h1, h2, AW.ro_get h3, h4⟩
theorem IsInts.ro {A : AW} {k : IntKind} {v : Value} {l : List Int} (h : IsInts A k v l) : IsInts A.ro k v l := IsSl.ro h

/-- Reading an element: the address and the cell. -/
theorem IsSl.form {A : AW} {size : Nat} {v : Value} {n : Nat} {cs : List Value} (h : IsSl A size v n cs) : ∃ o c, v = .slice o n c ∧ n ≤ c := by
  rcases h with ⟨⟨o, rfl⟩, rfl, _⟩ | ⟨p, c, _, _, _, rfl, h, _⟩
  · exact ⟨_, _, rfl, Nat.le_refl _⟩
  · exact ⟨_, _, rfl, h⟩

/-- The two forms of a slice of integers. -/
theorem IsInts.cases {A : AW} {k : IntKind} {v : Value} {l : List Int} (h : IsInts A k v l) :
    ((∃ o, v = .slice o 0 0) ∧ l = []) ∨ ∃ p c row own, v = .slice (some p) l.length c ∧ l.length ≤ c ∧ A.get p.block = some (.cells row own 1) ∧ p.off + l.length ≤ row.length ∧
      ∀ j (hj : j < l.length), row[p.off + j]? = some (.int k l[j]) := by
  rcases h with ⟨h1, h2, h3⟩ | ⟨p, c, row, own, u, h1, h2, h3, h4, h5, h6⟩
  · exact .inl ⟨h1, List.eq_nil_of_length_eq_zero h2⟩
  · subst h4
    rw [Nat.mul_one] at h5 h6
    refine .inr ⟨p, c, row, own, h1, h2, h3, h5, fun j hj => ?_⟩
    have h7 : (l.map (Value.int k))[j]? = ((row.drop p.off).take l.length)[j]? := by rw [h6]
    rw [List.getElem?_map, List.getElem?_eq_getElem hj, List.getElem?_take_of_lt hj, List.getElem?_drop] at h7
    exact h7.symm

theorem IsInts.form {A : AW} {k : IntKind} {v : Value} {l : List Int} (h : IsInts A k v l) : ∃ o c, v = .slice o l.length c ∧ l.length ≤ c := IsSl.form h

/-- Reading an element: the address and the cell. -/
theorem IsInts.at {A : AW} {k : IntKind} {o : Option Addr} {c n : Nat} {l : List Int} (h : IsInts A k (.slice o n c) l) {i : Nat} (hi : i < l.length) :
    ∃ p row, o = some p ∧ A.row p.block = some row ∧ row[p.off + i]? = some (.int k l[i]) := by
  rcases h.cases with ⟨h1, rfl⟩ | ⟨p, c, row, own, h1, _, hg, _, hr⟩
  · simp at hi
  · injection h1 with h1 h2 h3
    exact ⟨p, row, h1, AW.row_of hg, hr i hi⟩


end Go.Stx
