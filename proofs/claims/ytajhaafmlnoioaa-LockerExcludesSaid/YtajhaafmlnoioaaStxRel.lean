/-
  The relation between an abstract memory (blocks with numbers of our own, no capacities, no draws) and the model's worlds, and how it is kept.
-/
import Derived.WalkKit
namespace Go.Stx
open Go

/-- Where an abstract block lies: the concrete block, the offset of its first cell; how many cells an element of it has, and how many cells the concrete block has. -/
structure Pl where
  block : Nat
  base : Nat
  unit : Nat
  total : Nat

abbrev Mp := Nat → Option Pl

def ARel (m : Mp) (a a' : Addr) : Prop :=
  a.spot = none ∧ a'.spot = none ∧ ∃ p, m a.block = some p ∧ a'.block = p.block ∧ a'.off = p.base + a.off

/-- A slice's address: its capacity lies within the block. -/
def SRel (m : Mp) (a a' : Addr) (cap' : Nat) : Prop :=
  a.spot = none ∧ a'.spot = none ∧ ∃ p, m a.block = some p ∧ a'.block = p.block ∧ a'.off = p.base + a.off ∧ a'.off + cap' * p.unit ≤ p.total

theorem SRel.arel {m : Mp} {a a' : Addr} {c : Nat} (h : SRel m a a' c) : ARel m a a' := by
  obtain ⟨h1, h2, p, h3, h4, h5, _⟩ := h
  exact ⟨h1, h2, p, h3, h4, h5⟩

inductive VRel (m : Mp) : Value → Value → Prop
  | bool (b : Bool) : VRel m (.bool b) (.bool b)
  | int (k : IntKind) (n : Int) : VRel m (.int k n) (.int k n)
  | float (k : FloatKind) (n : Nat) : VRel m (.float k n) (.float k n)
  | complex (k : FloatKind) (x y : Nat) : VRel m (.complex k x y) (.complex k x y)
  | string (s : ByteArray) : VRel m (.string s) (.string s)
  | ptrNone : VRel m (.pointer none) (.pointer none)
  | ptr {a a' : Addr} (h : ARel m a a') : VRel m (.pointer (some a)) (.pointer (some a'))
  | sliceNone : VRel m (.slice none 0 0) (.slice none 0 0)
  | slice {a a' : Addr} {len cap cap' : Nat} (h : SRel m a a' cap' ∨ (len = 0 ∧ cap' = 0 ∧ (a.spot.isSome = true ∨ m a.block ≠ none))) (h1 : len ≤ cap) (h2 : cap ≤ cap') :
      VRel m (.slice (some a) len cap) (.slice (some a') len cap')
  | mapNone : VRel m (.map none) (.map none)
  | map {r r' : Nat} (h : ∃ p, m r = some p ∧ p.block = r') : VRel m (.map (some r)) (.map (some r'))
  | chanNone : VRel m (.chan none) (.chan none)
  | func (fn : Fn) {x x' y y' : Array Value} (hx : x.size = x'.size) (hy : y.size = y'.size)
      (h1 : ∀ (i : Nat) (v v' : Value), x[i]? = some v → x'[i]? = some v' → VRel m v v')
      (h2 : ∀ (i : Nat) (v v' : Value), y[i]? = some v → y'[i]? = some v' → VRel m v v') :
      VRel m (.func fn x y) (.func fn x' y')
  | nilFunc : VRel m .nilFunc .nilFunc
  | iface (t : TypeId) {v v' : Value} (h : VRel m v v') : VRel m (.iface t v) (.iface t v')
  | nilIface : VRel m .nilIface .nilIface
  | agg {x x' : Array Value} (hx : x.size = x'.size)
      (h1 : ∀ (i : Nat) (v v' : Value), x[i]? = some v → x'[i]? = some v' → VRel m v v') : VRel m (.agg x) (.agg x')
  | tuple {x x' : Array Value} (hx : x.size = x'.size)
      (h1 : ∀ (i : Nat) (v v' : Value), x[i]? = some v → x'[i]? = some v' → VRel m v v') : VRel m (.tuple x) (.tuple x')

def Mp.le (m m' : Mp) : Prop := ∀ i x, m i = some x → m' i = some x

theorem Mp.le_refl (m : Mp) : Mp.le m m := fun _ _ h => h
theorem Mp.le_trans {a b c : Mp} (h : Mp.le a b) (k : Mp.le b c) : Mp.le a c := fun i x e => k i x (h i x e)

theorem Mp.le_some {m m' : Mp} (hm : Mp.le m m') {i : Nat} (h : m i ≠ none) : m' i ≠ none := fun e => by
  cases hi : m i with
  | none => exact h hi
  | some p => rw [hm i p hi] at e; cases e

theorem ARel.mono {m m' : Mp} (hm : Mp.le m m') {a a' : Addr} (h : ARel m a a') : ARel m' a a' := by
  obtain ⟨h1, h2, p, h3, h4⟩ := h
  exact ⟨h1, h2, p, hm _ _ h3, h4⟩
theorem SRel.mono {m m' : Mp} (hm : Mp.le m m') {a a' : Addr} {c : Nat} (h : SRel m a a' c) : SRel m' a a' c := by
  obtain ⟨h1, h2, p, h3, h4⟩ := h
  exact ⟨h1, h2, p, hm _ _ h3, h4⟩

theorem VRel.mono {m m' : Mp} (hm : Mp.le m m') {v v' : Value} (h : VRel m v v') : VRel m' v v' := by
  induction h with
  | bool b => exact .bool b
  | int k n => exact .int k n
  | float k n => exact .float k n
  | complex k x y => exact .complex k x y
  | string s => exact .string s
  | ptrNone => exact .ptrNone
  | ptr h => exact .ptr (h.mono hm)
  | sliceNone => exact .sliceNone
  | slice h h1 h2 => exact .slice (h.imp (fun x => x.mono hm) fun ⟨e1, e2, e3⟩ => ⟨e1, e2, e3.imp id (Mp.le_some hm)⟩) h1 h2
  | mapNone => exact .mapNone
  | map h => obtain ⟨p, h1, h2⟩ := h; exact .map ⟨p, hm _ _ h1, h2⟩
  | chanNone => exact .chanNone
  | func fn hx hy _ _ ih1 ih2 => exact .func fn hx hy ih1 ih2
  | nilFunc => exact .nilFunc
  | iface t _ ih => exact .iface t ih
  | nilIface => exact .nilIface
  | agg hx _ ih => exact .agg hx ih
  | tuple hx _ ih => exact .tuple hx ih

/-- Two lists of values, element by element. -/
def LRel (m : Mp) (l l' : List Value) : Prop := l.length = l'.length ∧ ∀ (i : Nat) (v v' : Value), l[i]? = some v → l'[i]? = some v' → VRel m v v'

theorem LRel.mono {m m' : Mp} (hm : Mp.le m m') {l l' : List Value} (h : LRel m l l') : LRel m' l l' := ⟨h.1, fun i v v' a b => (h.2 i v v' a b).mono hm⟩
theorem LRel.nil {m : Mp} : LRel m [] [] := ⟨rfl, fun i v v' h => by simp at h⟩
theorem LRel.cons {m : Mp} {v v' : Value} {l l' : List Value} (h : VRel m v v') (t : LRel m l l') : LRel m (v :: l) (v' :: l') := by
  refine ⟨by simp [t.1], fun i x x' h1 h2 => ?_⟩
  cases i with
  | zero => simp at h1 h2; subst h1; subst h2; exact h
  | succ i => simp at h1 h2; exact t.2 i x x' h1 h2
theorem LRel.append {m : Mp} {a a' b b' : List Value} (h : LRel m a a') (k : LRel m b b') : LRel m (a ++ b) (a' ++ b') := by
  refine ⟨by simp [h.1, k.1], fun i v v' h1 h2 => ?_⟩
  rw [List.getElem?_append] at h1 h2
  rw [← h.1] at h2
  by_cases hi : i < a.length
  · rw [if_pos hi] at h1 h2; exact h.2 i v v' h1 h2
  · rw [if_neg hi] at h1 h2; exact k.2 _ v v' h1 h2
theorem LRel.get {m : Mp} {l l' : List Value} (h : LRel m l l') {i : Nat} {v : Value} (hi : l[i]? = some v) : ∃ v', l'[i]? = some v' ∧ VRel m v v' := by
  have hlt : i < l'.length := by rw [← h.1]; exact (List.getElem?_eq_some_iff.1 hi).1
  exact ⟨l'[i], List.getElem?_eq_getElem hlt, h.2 i v _ hi (List.getElem?_eq_getElem hlt)⟩
theorem LRel.inv_cons {m : Mp} {v : Value} {l l' : List Value} (h : LRel m (v :: l) l') : ∃ v' t', l' = v' :: t' ∧ VRel m v v' ∧ LRel m l t' := by
  cases l' with
  | nil => have := h.1; simp at this
  | cons v' t' =>
    refine ⟨v', t', rfl, h.2 0 v v' rfl rfl, ⟨by have := h.1; simpa using this, fun i x x' h1 h2 => h.2 (i + 1) x x' (by simpa using h1) (by simpa using h2)⟩⟩
theorem LRel.inv_nil {m : Mp} {l' : List Value} (h : LRel m [] l') : l' = [] := by
  exact List.eq_nil_of_length_eq_zero h.1.symm

/-- An abstract object: a row of cells ('own': we may write it; 'unit': how many cells an element has), or a map. -/
inductive AObj where
  | cells (cs : List Value) (own : Bool) (unit : Nat)
  | map (es : List (Value × Value)) (own : Bool)

structure AW where
  next : Nat
  get : Nat → Option AObj

def AW.set (A : AW) (i : Nat) (o : Option AObj) : AW := { A with get := fun j => if j = i then o else A.get j }
def AW.alloc (A : AW) (o : AObj) : AW := { next := A.next + 1, get := fun j => if j = A.next then some o else A.get j }

def AObj.own : AObj → Bool
  | .cells _ o _ => o
  | .map _ o => o

def OMatch (m : Mp) (w : World) (p : Pl) : AObj → Prop
  | .cells cs own unit => ∃ cur e fr, w.heap[p.block]? = some (.cells cur e fr) ∧ (own = true → fr = (0, 0)) ∧ unit = p.unit ∧ cur.size = p.total ∧
      ∀ (k : Nat) (v : Value), cs[k]? = some v → ∃ v', cur[p.base + k]? = some v' ∧ VRel m v v'
  | .map es _ => ∃ ents clock, w.heap[p.block]? = some (.map ents clock) ∧ es.length = ents.size ∧
      ∀ (k : Nat) (x : Value × Value) (e : MapEntry), es[k]? = some x → ents[k]? = some e → VRel m x.1 e.key ∧ VRel m x.2 e.val

theorem OMatch.heap {m : Mp} {w w' : World} {p : Pl} {o : AObj} (h : OMatch m w p o) (e : w'.heap[p.block]? = w.heap[p.block]?) : OMatch m w' p o := by
  cases o with
  | cells cs own unit =>
    obtain ⟨cur, e', fr, h3, h4⟩ := h
    exact ⟨cur, e', fr, by rw [e]; exact h3, h4⟩
  | map es own =>
    obtain ⟨ents, clock, h3, h4⟩ := h
    exact ⟨ents, clock, by rw [e]; exact h3, h4⟩

theorem OMatch.mono {m m' : Mp} {w : World} {p : Pl} {o : AObj} (hm : Mp.le m m') (h : OMatch m w p o) : OMatch m' w p o := by
  cases o with
  | cells cs own unit =>
    obtain ⟨cur, e', fr, h3, h4, h5, h6, h7⟩ := h
    refine ⟨cur, e', fr, h3, h4, h5, h6, fun k v hv => ?_⟩
    obtain ⟨v', h8, h9⟩ := h7 k v hv
    exact ⟨v', h8, h9.mono hm⟩
  | map es own =>
    obtain ⟨ents, clock, h3, h4, h5⟩ := h
    exact ⟨ents, clock, h3, h4, fun k x e a b => ⟨(h5 k x e a b).1.mono hm, (h5 k x e a b).2.mono hm⟩⟩

theorem OMatch.lt {m : Mp} {w : World} {p : Pl} {o : AObj} (h : OMatch m w p o) : p.block < w.heap.size := by
  cases o with
  | cells cs own unit =>
    obtain ⟨cur, e', fr, h3, _⟩ := h
    exact (Array.getElem?_eq_some_iff.1 h3).1
  | map es own =>
    obtain ⟨ents, clock, h3, _⟩ := h
    exact (Array.getElem?_eq_some_iff.1 h3).1

structure Sim (m : Mp) (A : AW) (w : World) : Prop where
  obj : ∀ i o, A.get i = some o → ∃ p, m i = some p ∧ OMatch m w p o
  inj : ∀ i j o o' p p', A.get i = some o → o.own = true → A.get j = some o' → i ≠ j → m i = some p → m j = some p' → p.block ≠ p'.block
  fresh : ∀ i, A.next ≤ i → m i = none
  low : ∀ i, A.next ≤ i → A.get i = none

/-- The blocks that we may write. -/
def OwnB (m : Mp) (A : AW) (b : Nat) : Prop := ∃ i o p, A.get i = some o ∧ o.own = true ∧ m i = some p ∧ p.block = b

/-- From one state to a later one. -/
structure Evo (m : Mp) (A : AW) (w : World) (m' : Mp) (A' : AW) (w' : World) : Prop where
  ext : Mp.le m m'
  sim : Sim m' A' w'
  next : A.next ≤ A'.next
  os : w'.os = w.os
  tape : w'.tape = w.tape
  output : w'.output = w.output
  size : w.heap.size ≤ w'.heap.size
  out : ∀ b, b < w.heap.size → ¬ OwnB m A b → w'.heap[b]? = w.heap[b]?
  grow : ∀ b, OwnB m' A' b → OwnB m A b ∨ w.heap.size ≤ b

theorem Evo.refl {m : Mp} {A : AW} {w : World} (h : Sim m A w) : Evo m A w m A w :=
  ⟨Mp.le_refl m, h, Nat.le_refl _, rfl, rfl, rfl, Nat.le_refl _, fun _ _ _ => rfl, fun _ h => .inl h⟩

theorem Evo.trans {m m1 m2 : Mp} {A A1 A2 : AW} {w w1 w2 : World} (h : Evo m A w m1 A1 w1) (k : Evo m1 A1 w1 m2 A2 w2) : Evo m A w m2 A2 w2 := by
  refine ⟨Mp.le_trans h.ext k.ext, k.sim, Nat.le_trans h.next k.next, k.os.trans h.os, k.tape.trans h.tape, k.output.trans h.output, Nat.le_trans h.size k.size, ?_, ?_⟩
  · intro b hb ho
    rw [k.out b (Nat.lt_of_lt_of_le hb h.size) (fun hx => ?_), h.out b hb ho]
    rcases h.grow b hx with h1 | h1
    · exact ho h1
    · omega
  · intro b hb
    rcases k.grow b hb with h1 | h1
    · exact h.grow b h1
    · exact .inr (Nat.le_trans h.size h1)

/-- What depends on the heap alone. -/
theorem Sim.of_heap {m : Mp} {A : AW} {w w' : World} (h : Sim m A w) (e : w'.heap = w.heap) : Sim m A w' := by
  refine ⟨fun i o hi => ?_, h.inj, h.fresh, h.low⟩
  obtain ⟨p, h1, h2⟩ := h.obj i o hi
  exact ⟨p, h1, h2.heap (by rw [e])⟩

/-- A draw changes nothing that we speak of. -/
theorem Evo.drew {m : Mp} {A : AW} {w : World} (h : Sim m A w) : Evo m A w m A w.drew :=
  ⟨Mp.le_refl m, h.of_heap rfl, Nat.le_refl _, rfl, rfl, rfl, Nat.le_refl _, fun _ _ _ => rfl, fun _ h => .inl h⟩

end Go.Stx
