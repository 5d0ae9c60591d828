/-
  Assertions about parts of the abstract memory, joined by '*': what a call does not name it leaves as it is.
-/
import Derived.Test.YtajhaafmlnoioaaStxSimp
namespace Go.Stx
open Go
set_option linter.unusedVariables false

abbrev Hp := Nat → Option AObj

def Hp.dj (h k : Hp) : Prop := ∀ i, h i = none ∨ k i = none
def Hp.un (h k : Hp) : Hp := fun i => match h i with | some o => some o | none => k i

theorem Hp.dj_symm {h k : Hp} (d : Hp.dj h k) : Hp.dj k h := fun i => (d i).symm
theorem Hp.un_comm {h k : Hp} (d : Hp.dj h k) : Hp.un h k = Hp.un k h := by
  funext i
  simp only [Hp.un]
  rcases d i with e | e
  · rw [e]; cases k i <;> rfl
  · rw [e]; cases h i <;> rfl
theorem Hp.un_assoc (h k l : Hp) : Hp.un (Hp.un h k) l = Hp.un h (Hp.un k l) := by
  funext i
  simp only [Hp.un]
  cases h i <;> rfl
theorem Hp.un_none {h k : Hp} {i : Nat} : Hp.un h k i = none ↔ h i = none ∧ k i = none := by
  simp only [Hp.un]
  cases h i <;> simp

structure HP where
  holds : Hp → Prop

@[ext] theorem HP.ext' {P Q : HP} (h : ∀ x, P.holds x ↔ Q.holds x) : P = Q := by
  obtain ⟨p⟩ := P
  obtain ⟨q⟩ := Q
  congr
  funext x
  exact propext (h x)

def HP.star (P Q : HP) : HP := ⟨fun h => ∃ h1 h2, Hp.dj h1 h2 ∧ h = Hp.un h1 h2 ∧ P.holds h1 ∧ Q.holds h2⟩
instance : Mul HP := ⟨HP.star⟩

theorem star_holds {P Q : HP} {h : Hp} : (P * Q).holds h ↔ ∃ h1 h2, Hp.dj h1 h2 ∧ h = Hp.un h1 h2 ∧ P.holds h1 ∧ Q.holds h2 := Iff.rfl

theorem HP.mul_comm (P Q : HP) : P * Q = Q * P := by
  ext h
  simp only [star_holds]
  constructor
  · rintro ⟨a, b, d, rfl, p, q⟩; exact ⟨b, a, Hp.dj_symm d, Hp.un_comm d, q, p⟩
  · rintro ⟨a, b, d, rfl, p, q⟩; exact ⟨b, a, Hp.dj_symm d, Hp.un_comm d, q, p⟩

theorem HP.mul_assoc (P Q R : HP) : P * Q * R = P * (Q * R) := by
  ext h
  simp only [star_holds]
  constructor
  · rintro ⟨_, c, d, rfl, ⟨a, b, d1, rfl, p, q⟩, r⟩
    refine ⟨a, Hp.un b c, fun i => ?_, Hp.un_assoc _ _ _, p, b, c, fun i => ?_, rfl, q, r⟩
    · rcases d i with e | e
      · exact .inl (Hp.un_none.1 e).1
      · rcases d1 i with e1 | e1
        · exact .inl e1
        · exact .inr (Hp.un_none.2 ⟨e1, e⟩)
    · rcases d i with e | e
      · exact .inl (Hp.un_none.1 e).2
      · exact .inr e
  · rintro ⟨a, _, d, rfl, p, b, c, d1, rfl, q, r⟩
    refine ⟨Hp.un a b, c, fun i => ?_, (Hp.un_assoc _ _ _).symm, ⟨a, b, fun i => ?_, rfl, p, q⟩, r⟩
    · rcases d1 i with e | e
      · rcases d i with e1 | e1
        · exact .inl (Hp.un_none.2 ⟨e1, e⟩)
        · exact .inr (Hp.un_none.1 e1).2
      · exact .inr e
    · rcases d i with e1 | e1
      · exact .inl e1
      · exact .inr (Hp.un_none.1 e1).1

instance : Std.Associative (α := HP) (· * ·) := ⟨HP.mul_assoc⟩
instance : Std.Commutative (α := HP) (· * ·) := ⟨HP.mul_comm⟩

def hemp : HP := ⟨fun h => h = fun _ => none⟩
def hpr (p : Prop) : HP := ⟨fun h => p ∧ h = fun _ => none⟩
def hex {α : Type} (P : α → HP) : HP := ⟨fun h => ∃ x, (P x).holds h⟩
/-- The object at one place. -/
def pt (i : Nat) (o : AObj) : HP := ⟨fun h => h = fun j => if j = i then some o else none⟩
/-- One fixed part of the memory. -/
def hfix (h0 : Hp) : HP := ⟨fun h => h = h0⟩

theorem un_empty (h : Hp) : Hp.un (fun _ => none) h = h := rfl
theorem hpr_mul {p : Prop} {P : HP} {h : Hp} : (hpr p * P).holds h ↔ p ∧ P.holds h := by
  simp only [star_holds]
  constructor
  · rintro ⟨a, b, d, rfl, ⟨hp, rfl⟩, q⟩; exact ⟨hp, q⟩
  · rintro ⟨hp, q⟩; exact ⟨_, h, fun _ => .inl rfl, rfl, ⟨hp, rfl⟩, q⟩
theorem hex_mul {α : Type} {P : α → HP} {Q : HP} : hex P * Q = hex fun x => P x * Q := by
  ext h
  constructor
  · rintro ⟨a, b, d, rfl, ⟨x, p⟩, q⟩; exact ⟨x, a, b, d, rfl, p, q⟩
  · rintro ⟨x, a, b, d, rfl, p, q⟩; exact ⟨a, b, d, rfl, ⟨x, p⟩, q⟩
theorem hemp_mul (P : HP) : hemp * P = P := by
  ext h
  constructor
  · rintro ⟨a, b, d, rfl, rfl, q⟩; exact q
  · intro q; exact ⟨_, h, fun _ => .inl rfl, rfl, rfl, q⟩
theorem mul_hemp (P : HP) : P * hemp = P := by rw [HP.mul_comm, hemp_mul]

/-- The memory has the parts that P speaks of, beside others. -/
def Sat (A : AW) (P : HP) : Prop := ∃ h, P.holds h ∧ ∀ i o, h i = some o → A.get i = some o

def Ent (P Q : HP) : Prop := ∀ h, P.holds h → Q.holds h
theorem Ent.refl (P : HP) : Ent P P := fun _ h => h
theorem Ent.star {P P' Q Q' : HP} (h : Ent P P') (k : Ent Q Q') : Ent (P * Q) (P' * Q') := fun _ ⟨a, b, d, e, p, q⟩ => ⟨a, b, d, e, h a p, k b q⟩
theorem Ent.left {P P' : HP} (Q : HP) (h : Ent P P') : Ent (P * Q) (P' * Q) := Ent.star h (Ent.refl Q)

theorem Sat.ent {A : AW} {P Q : HP} (h : Sat A P) (e : Ent P Q) : Sat A Q := ⟨h.choose, e _ h.choose_spec.1, h.choose_spec.2⟩
theorem Sat.entl {A : AW} {P Q F : HP} (h : Sat A (P * F)) (e : Ent P Q) : Sat A (Q * F) := h.ent (e.left F)
theorem Sat.cast {A : AW} {P Q : HP} (h : Sat A P) (e : P = Q) : Sat A Q := e ▸ h
theorem Sat.right {A : AW} {P Q : HP} (h : Sat A (P * Q)) : Sat A Q := by
  obtain ⟨_, ⟨a, b, d, rfl, p, q⟩, hs⟩ := h
  refine ⟨b, q, fun i o hi => hs i o ?_⟩
  simp only [Hp.un]
  rcases d i with e | e
  · rw [e]; exact hi
  · rw [e] at hi; cases hi
theorem Sat.left {A : AW} {P Q : HP} (h : Sat A (P * Q)) : Sat A P := (h.cast (HP.mul_comm P Q)).right
theorem Sat.emp (A : AW) : Sat A hemp := ⟨_, rfl, fun i o h => by cases h⟩

theorem Sat.ex {α : Type} {A : AW} {P : α → HP} {F : HP} : Sat A (hex P * F) ↔ ∃ x, Sat A (P x * F) := by
  rw [hex_mul]
  constructor
  · rintro ⟨h, ⟨x, p⟩, hs⟩; exact ⟨x, h, p, hs⟩
  · rintro ⟨x, h, p, hs⟩; exact ⟨h, ⟨x, p⟩, hs⟩
theorem Sat.pr {A : AW} {p : Prop} {F : HP} : Sat A (hpr p * F) ↔ p ∧ Sat A F := by
  constructor
  · rintro ⟨h, hh, hs⟩; rw [hpr_mul] at hh; exact ⟨hh.1, h, hh.2, hs⟩
  · rintro ⟨hp, h, hh, hs⟩; exact ⟨h, hpr_mul.2 ⟨hp, hh⟩, hs⟩

theorem Sat.of_eq {A A' : AW} {P : HP} (h : Sat A P) (e : ∀ i o, A.get i = some o → A'.get i = some o) : Sat A' P :=
  ⟨h.choose, h.choose_spec.1, fun i o hi => e i o (h.choose_spec.2 i o hi)⟩
theorem Sat.le {A A' : AW} {P : HP} (h : Sat A P) (hw : A.Wf) (hl : A.le A') : Sat A' P := h.of_eq fun i o hi => hl.keep hw hi

theorem Sat.get {A : AW} {i : Nat} {o : AObj} {F : HP} (h : Sat A (pt i o * F)) : A.get i = some o := by
  obtain ⟨_, ⟨a, b, d, rfl, rfl, q⟩, hs⟩ := h
  exact hs i o (by simp [Hp.un])
theorem Sat.get1 {A : AW} {i : Nat} {o : AObj} (h : Sat A (pt i o)) : A.get i = some o := by
  obtain ⟨_, rfl, hs⟩ := h
  exact hs i o (by simp)
theorem Sat.ne {A : AW} {i j : Nat} {o o' : AObj} {F : HP} (h : Sat A (pt i o * (pt j o' * F))) : i ≠ j := by
  obtain ⟨_, ⟨a, _, d, rfl, rfl, b, c, d1, rfl, rfl, q⟩, hs⟩ := h
  rintro rfl
  rcases d i with e | e
  · simp at e
  · simp [Hp.un] at e

/-- What lies beside a place that turns stays as it is. -/
theorem Sat.beside {A A' : AW} {i : Nat} {o : AObj} {F : HP} (h : Sat A (pt i o * F)) (e : ∀ j o', j ≠ i → A.get j = some o' → A'.get j = some o') : Sat A' F := by
  obtain ⟨_, ⟨a, b, d, rfl, rfl, q⟩, hs⟩ := h
  refine ⟨b, q, fun j o' hj => ?_⟩
  have hji : j ≠ i := by
    rintro rfl
    rcases d j with e | e
    · simp at e
    · rw [e] at hj; cases hj
  refine e j o' hji (hs j o' ?_)
  simp [Hp.un, hji, hj]

theorem Sat.cons {A : AW} {i : Nat} {o : AObj} {F : HP} (hg : A.get i = some o) (h : Sat (A.set i none) F) : Sat A (pt i o * F) := by
  obtain ⟨b, q, hs⟩ := h
  have hb : b i = none := by
    cases hbi : b i with
    | none => rfl
    | some x => have := hs i x hbi; simp at this
  refine ⟨_, ⟨_, b, fun j => ?_, rfl, rfl, q⟩, fun j o' hj => ?_⟩
  · by_cases e : j = i
    · subst e; exact .inr hb
    · exact .inl (by simp [e])
  · by_cases e : j = i
    · subst e; simp [Hp.un] at hj; rw [hg, hj]
    · simp [Hp.un, e] at hj
      have := hs j o' hj
      rwa [AW.set_get_ne e] at this

theorem Sat.set {A : AW} {i : Nat} {o : AObj} {F : HP} (h : Sat A (pt i o * F)) (o' : AObj) : Sat (A.set i (some o')) (pt i o' * F) := by
  refine Sat.cons AW.set_get_same (h.beside fun j x hj hx => ?_)
  rw [AW.set_get_ne hj, AW.set_get_ne hj]
  exact hx
theorem Sat.kill {A : AW} {i : Nat} {o : AObj} {F : HP} (h : Sat A (pt i o * F)) : Sat (A.set i none) F :=
  h.beside fun j x hj hx => by rw [AW.set_get_ne hj]; exact hx
theorem Sat.alloc {A : AW} {F : HP} (h : Sat A F) (hw : A.Wf) (o : AObj) : Sat (A.alloc o) (pt A.next o * F) := by
  refine Sat.cons (AW.alloc_get_new A o) (h.of_eq fun j x hx => ?_)
  have := hw.lt hx
  rw [AW.set_get_ne (by omega), AW.alloc_get_old _ _ (by omega)]
  exact hx
theorem Sat.keep {A : AW} {F : HP} (h : Sat A F) (hw : A.Wf) (o : AObj) : Sat (A.alloc o) F := (h.alloc hw o).right

theorem Sat.ne2 {A : AW} {i j : Nat} {o o' : AObj} {P F : HP} (h : Sat A (pt i o * (P * (pt j o' * F)))) : i ≠ j :=
  Sat.ne (h.cast (by ac_rfl : pt i o * (P * (pt j o' * F)) = pt i o * (pt j o' * (P * F))))
theorem AW.get_alloc (A : AW) (o : AObj) (i : Nat) : (A.alloc o).get i = if i = A.next then some o else A.get i := rfl
theorem AW.get_set (A : AW) (o : Option AObj) (i j : Nat) : (A.set i o).get j = if j = i then o else A.get j := rfl
theorem AW.row_get (A : AW) (i : Nat) : A.row i = match A.get i with | some (.cells cs _ _) => some cs | _ => none := rfl
/-- A block that is there is none of those to come. -/
theorem AW.Wf.old {A : AW} (hw : A.Wf) {i : Nat} {o : AObj} (hg : A.get i = some o) : (i = A.next) = False ∧ ∀ k, (i = A.next + k) = False := by
  have := hw.lt hg
  exact ⟨eq_false (by omega), fun k => eq_false (by omega)⟩

theorem Sat.post {A : AW} {p : Prop} {Q F : HP} (hp : p) (h : Sat A (Q * F)) : Sat A (hpr p * Q * F) := by
  rw [HP.mul_assoc, Sat.pr]; exact ⟨hp, h⟩
theorem Sat.post1 {A : AW} {p : Prop} {F : HP} (hp : p) (h : Sat A F) : Sat A (hpr p * F) := Sat.pr.2 ⟨hp, h⟩
theorem Sat.unpost {A : AW} {p : Prop} {Q F : HP} (h : Sat A (hpr p * Q * F)) : p ∧ Sat A (Q * F) := by
  rw [HP.mul_assoc, Sat.pr] at h; exact h

theorem Sat.upd1 {A A' : AW} {b : Nat} {o o' : AObj} {F : HP} (h : Sat A (pt b o * F)) (h1 : A'.get b = some o') (hk : ∀ j x, j ≠ b → A.get j = some x → A'.get j = some x) : Sat A' (pt b o' * F) :=
  Sat.cons h1 (h.beside fun j x hj hx => by rw [AW.set_get_ne hj]; exact hk j x hj hx)
theorem Sat.upd2 {A A' : AW} {b c : Nat} {o o' p p' : AObj} {F : HP} (h : Sat A (pt b o * (pt c p * F))) (h1 : A'.get b = some o') (h2 : A'.get c = some p')
    (hk : ∀ j x, j ≠ b → j ≠ c → A.get j = some x → A'.get j = some x) : Sat A' (pt b o' * (pt c p' * F)) := by
  have hbc := h.ne
  have e1 : Sat (A'.set b (some o)) (pt b o * (pt c p' * F)) := by
    have h' : Sat A (pt c p * (pt b o * F)) := h.cast (by ac_rfl)
    refine (Sat.upd1 h' (by rw [AW.set_get_ne (Ne.symm hbc)]; exact h2) fun j x hj hx => ?_).cast (by ac_rfl)
    by_cases e : j = b
    · subst e; rw [AW.set_get_same]; rw [h.get] at hx; exact hx
    · rw [AW.set_get_ne e]; exact hk j x e hj hx
  exact Sat.upd1 e1 h1 fun j x hj hx => by rwa [AW.set_get_ne hj] at hx
theorem Sat.upd3 {A A' : AW} {b c d : Nat} {o o' p p' q q' : AObj} {F : HP} (h : Sat A (pt b o * (pt c p * (pt d q * F)))) (h1 : A'.get b = some o') (h2 : A'.get c = some p') (h3 : A'.get d = some q')
    (hk : ∀ j x, j ≠ b → j ≠ c → j ≠ d → A.get j = some x → A'.get j = some x) : Sat A' (pt b o' * (pt c p' * (pt d q' * F))) := by
  have hbc := h.ne
  have hbd := h.ne2
  have e1 : Sat (A'.set b (some o)) (pt b o * (pt c p' * (pt d q' * F))) := by
    have h' : Sat A (pt c p * (pt d q * (pt b o * F))) := h.cast (by ac_rfl)
    refine (Sat.upd2 h' (by rw [AW.set_get_ne (Ne.symm hbc)]; exact h2) (by rw [AW.set_get_ne (Ne.symm hbd)]; exact h3) fun j x hj hj2 hx => ?_).cast (by ac_rfl)
    by_cases e : j = b
    · subst e; rw [AW.set_get_same]; rw [h.get] at hx; exact hx
    · rw [AW.set_get_ne e]; exact hk j x e hj hj2 hx
  exact Sat.upd1 e1 h1 fun j x hj hx => by rwa [AW.set_get_ne hj] at hx
theorem Sat.upd4 {A A' : AW} {b c d e : Nat} {o o' p p' q q' r r' : AObj} {F : HP} (h : Sat A (pt b o * (pt c p * (pt d q * (pt e r * F))))) (h1 : A'.get b = some o') (h2 : A'.get c = some p') (h3 : A'.get d = some q') (h4 : A'.get e = some r')
    (hk : ∀ j x, j ≠ b → j ≠ c → j ≠ d → j ≠ e → A.get j = some x → A'.get j = some x) : Sat A' (pt b o' * (pt c p' * (pt d q' * (pt e r' * F)))) := by
  have hbc := h.ne
  have hbd := h.ne2
  have hbe : b ≠ e := Sat.ne2 (P := pt c p * pt d q) (F := F) (h.cast (by ac_rfl))
  have e1 : Sat (A'.set b (some o)) (pt b o * (pt c p' * (pt d q' * (pt e r' * F)))) := by
    have h' : Sat A (pt c p * (pt d q * (pt e r * (pt b o * F)))) := h.cast (by ac_rfl)
    refine (Sat.upd3 h' (by rw [AW.set_get_ne (Ne.symm hbc)]; exact h2) (by rw [AW.set_get_ne (Ne.symm hbd)]; exact h3) (by rw [AW.set_get_ne (Ne.symm hbe)]; exact h4) fun j x hj hj2 hj3 hx => ?_).cast (by ac_rfl)
    by_cases e : j = b
    · subst e; rw [AW.set_get_same]; rw [h.get] at hx; exact hx
    · rw [AW.set_get_ne e]; exact hk j x e hj hj2 hj3 hx
  exact Sat.upd1 e1 h1 fun j x hj hx => by rwa [AW.set_get_ne hj] at hx

/-- What is left when a function ends: one place turned, the places of its own variables forgotten. -/
theorem Sat.fin10 {A A' : AW} {b : Nat} {o o' : AObj} {F : HP} (h : Sat A (pt b o * F)) (h1 : A'.get b = some o') (hk : ∀ j x, j ≠ b → A.get j = some x → A'.get j = some x) : Sat A' (pt b o' * F) := h.upd1 h1 hk
theorem Sat.fin11 {A A' : AW} {b c : Nat} {o o' p : AObj} {F : HP} (h : Sat A (pt b o * (pt c p * F))) (h1 : A'.get b = some o') (hk : ∀ j x, j ≠ b → j ≠ c → A.get j = some x → A'.get j = some x) : Sat A' (pt b o' * F) := by
  have hbc := h.ne
  have h' : Sat A (pt c p * (pt b o * F)) := h.cast (by ac_rfl)
  have e1 : Sat (A'.set b (some o)) (pt b o * F) := h'.beside fun j x hj hx => by
    by_cases e : j = b
    · subst e; rw [AW.set_get_same]; rw [h.get] at hx; exact hx
    · rw [AW.set_get_ne e]; exact hk j x e hj hx
  exact Sat.upd1 e1 h1 fun j x hj hx => by rwa [AW.set_get_ne hj] at hx
theorem Sat.fin12 {A A' : AW} {b c d : Nat} {o o' p q : AObj} {F : HP} (h : Sat A (pt b o * (pt c p * (pt d q * F)))) (h1 : A'.get b = some o') (hk : ∀ j x, j ≠ b → j ≠ c → j ≠ d → A.get j = some x → A'.get j = some x) : Sat A' (pt b o' * F) := by
  have hbc := h.ne
  have hbd := h.ne2
  have hcd := h.right.ne
  have e1 : Sat (A'.set c (some p)) (pt b o' * (pt c p * F)) := by
    refine (Sat.fin11 (b := b) (c := d) (o := o) (p := q) (F := pt c p * F) (h.cast (by ac_rfl)) (by rw [AW.set_get_ne hbc]; exact h1) fun j x hj hj2 hx => ?_)
    by_cases e : j = c
    · subst e; rw [AW.set_get_same]; rw [h.right.get] at hx; exact hx
    · rw [AW.set_get_ne e]; exact hk j x hj e hj2 hx
  have e2 : Sat (A'.set c (some p)) (pt c p * (pt b o' * F)) := e1.cast (by ac_rfl)
  exact e2.beside fun j x hj hx => by rwa [AW.set_get_ne hj] at hx
theorem Sat.fin01 {A A' : AW} {c : Nat} {p : AObj} {F : HP} (h : Sat A (pt c p * F)) (hk : ∀ j x, j ≠ c → A.get j = some x → A'.get j = some x) : Sat A' F := h.beside hk
theorem Sat.fin02 {A A' : AW} {c d : Nat} {p q : AObj} {F : HP} (h : Sat A (pt c p * (pt d q * F))) (hk : ∀ j x, j ≠ c → j ≠ d → A.get j = some x → A'.get j = some x) : Sat A' F := by
  have hcd := h.ne
  have h' : Sat A (pt d q * (pt c p * F)) := h.cast (by ac_rfl)
  have e1 : Sat (A'.set c (some p)) (pt c p * F) := h'.beside fun j x hj hx => by
    by_cases e : j = c
    · subst e; rw [AW.set_get_same]; rw [h.get] at hx; exact hx
    · rw [AW.set_get_ne e]; exact hk j x e hj hx
  exact e1.beside fun j x hj hx => by rwa [AW.set_get_ne hj] at hx

/-- The memory at hand under a name of its own. -/
theorem awp_gen {P : Program} {n : Nat} {c : Code} {Q : Exit → Fr → AW → Prop} {a : Fr} {A : AW} (J : AW → Prop) (hJ : J A) (h : ∀ A', J A' → AWP P n c Q a A') : AWP P n c Q a A := h A hJ

/-- A loop of few rounds, round by round. -/
def ARounds (P : Program) (n : Nat) (c : Code) (Q : Exit → Fr → AW → Prop) : Nat → Fr → AW → Prop
  | 0, _, _ => False
  | k + 1, a, A => AWP P n c (AThen (ARounds P n c Q k) Q) a A
theorem awp_rounds {P : Program} {n : Nat} {c : Code} {Q : Exit → Fr → AW → Prop} {a : Fr} {A : AW} (k : Nat) (h : ARounds P n c Q k a A) : AWP P n (.loop c) Q a A := by
  refine awp_loop (ARounds P n c Q) k h ?_
  intro k a A h
  cases k with
  | zero => exact h.elim
  | succ k => exact awp_mono h fun e a A hh => by cases e <;> first | exact ⟨k, Nat.lt_succ_self k, hh⟩ | exact hh
theorem arounds_step {P : Program} {n : Nat} {c : Code} {Q : Exit → Fr → AW → Prop} {a : Fr} {A : AW} {k : Nat} (h : AWP P n c (AThen (ARounds P n c Q k) Q) a A) : ARounds P n c Q (k + 1) a A := h

/-! ### Contracts -/

/-- A call that needs what P says, and leaves what Q says: whatever lies beside it stays. -/
def SCall (P : Program) (f : FuncId) (args : List Value) (pre : HP) (post : Value → HP) : Prop :=
  ∀ (A : AW) (F : HP), A.Wf → Sat A (pre * F) → ACall P f args A fun v A' => Sat A' (post v * F)

theorem SCall.use {P : Program} {f : FuncId} {args : List Value} {pre : HP} {post : Value → HP} (h : SCall P f args pre post) {A : AW} {G F : HP} (hw : A.Wf) (hs : Sat A G) (e : G = pre * F) {k : Value → AW → Prop}
    (hk : ∀ v A', Sat A' (post v * F) → A'.Wf → A.next ≤ A'.next → k v A') : ACall P f args A k :=
  callK (h A F hw (hs.cast e)) hk

end Go.Stx
