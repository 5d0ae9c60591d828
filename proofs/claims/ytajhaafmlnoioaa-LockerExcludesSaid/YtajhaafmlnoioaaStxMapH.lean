/-
  Assertions on maps from integers.
-/
import Derived.Test.YtajhaafmlnoioaaStxChunk
namespace Go.Stx
open Go
set_option linter.unusedVariables false

def assocI (es : List (Int × Value)) (a : Int) : Option Value := (es.find? fun e => e.1 == a).map (·.2)
def rowsI (k : IntKind) (es : List (Int × Value)) : List (Value × Value) := es.map fun e => (.int k e.1, e.2)

/-- The map at r sends an integer to f of it. -/
def MapI (k : IntKind) (r : Nat) (f : Int → Option Value) : HP := hex fun es : List (Int × Value) => hpr (∀ a, assocI es a = f a) * pt r (.map (rowsI k es) true)

theorem afindKey_int {k0 k : IntKind} {a : Int} : ∀ (es : List (Int × Value)) (i : Nat), ∃ q, afindKey (.int k0) (.int k a) (rowsI k es) i = some q ∧ q.map (·.2) = assocI es a ∧
    ∀ j v, q = some (j, v) → ∃ j', j = i + j' ∧ j' < es.length ∧ ∀ v' b, assocI (es.set j' (a, v')) b = if b = a then some v' else assocI es b
  | [], i => ⟨none, rfl, rfl, fun j v h => by cases h⟩
  | e :: es, i => by
    unfold rowsI afindKey
    simp only [List.map_cons, sameNow_int]
    by_cases h : a = e.1
    · subst h
      refine ⟨some (i, e.2), by simp, by simp [assocI], ?_⟩
      intro j v hj
      injection hj with hj
      injection hj with h1 h2
      subst h1
      refine ⟨0, rfl, by simp, fun v' b => ?_⟩
      simp only [List.set_cons_zero, assocI, List.find?_cons]
      by_cases hb : e.1 = b
      · subst hb; simp
      · have hb' : (e.1 == b) = false := by simpa using hb
        simp [hb', Ne.symm hb]
    · have hne : (a == e.1) = false := by simpa using h
      rw [hne]
      obtain ⟨q, h1, h2, h3⟩ := afindKey_int (k0 := k0) (k := k) (a := a) es (i + 1)
      refine ⟨q, h1, ?_, ?_⟩
      · rw [h2]
        have : ¬ e.1 = a := fun x => h x.symm
        simp [assocI, this]
      · intro j v hj
        obtain ⟨j', g1, g2, g3⟩ := h3 j v hj
        refine ⟨j' + 1, by omega, by simpa using g2, fun v' b => ?_⟩
        have := g3 v' b
        simp only [List.set_cons_succ, assocI, List.find?_cons] at this ⊢
        by_cases hb : e.1 = b
        · subst hb
          have : ¬ e.1 = a := fun x => h x.symm
          simp [this]
        · have hb' : (e.1 == b) = false := by simpa using hb
          rw [hb']
          simpa using this

theorem assocI_append {es : List (Int × Value)} {a : Int} {v : Value} (h : assocI es a = none) (b : Int) : assocI (es ++ [(a, v)]) b = if b = a then some v else assocI es b := by
  simp only [assocI, List.find?_append, Option.map_eq_none_iff] at h ⊢
  by_cases hb : b = a
  · subst hb
    simp [h]
  · have : ¬ a = b := fun x => hb x.symm
    simp [hb, this]

theorem MapI.get {A : AW} {k : IntKind} {r : Nat} {f : Int → Option Value} {F : HP} (h : Sat A (MapI k r f * F)) :
    ∃ es, A.get r = some (.map (rowsI k es) true) ∧ (∀ a, assocI es a = f a) ∧ Sat A (pt r (.map (rowsI k es) true) * F) := by
  unfold MapI at h
  rw [Sat.ex] at h
  obtain ⟨es, h⟩ := h
  rw [HP.mul_assoc, Sat.pr] at h
  exact ⟨es, h.2.get, h.1, h.2⟩

/-- m[a]. -/
theorem MapI.lookup {P : Program} {A : AW} {t kt e : TypeId} {k0 k : IntKind} {r : Nat} {f : Int → Option Value} {F : HP} (h : Sat A (MapI k r f * F)) (ht : P.underlying t = some (.map kt e)) (hk : P.underlying kt = some (.int k0)) (a : Int) (c : Bool) :
    alookup P A t (.map (some r)) (.int k a) c = match f a with
      | some v => some (if c then .tuple #[v, .bool true] else v)
      | none => amapZero P e c := by
  obtain ⟨es, hg, hf, _⟩ := MapI.get h
  obtain ⟨q, h1, h2, _⟩ := afindKey_int (k0 := k0) (k := k) (a := a) es 0
  simp only [alookup, ht, hk, isKeyDesc, if_true, hg, h1]
  rw [hf a] at h2
  rw [← h2]
  cases q with
  | none => rfl
  | some q => rfl

/-- What a walk is to know of a map. -/
theorem MapI.facts {A : AW} {k : IntKind} {r : Nat} {f : Int → Option Value} {F : HP} (h : Sat A (MapI k r f * F)) :
    ∃ rows, A.get r = some (.map rows true) ∧ (∀ k0 a v, f a = some v → ∃ q, afindKey (.int k0) (.int k a) rows 0 = some (some (q, v))) ∧ (∀ k0 a, f a = none → afindKey (.int k0) (.int k a) rows 0 = some none) ∧
      Sat A (pt r (.map rows true) * F) ∧ ∀ {A' : AW} {F' : HP}, Sat A' (pt r (.map rows true) * F') → Sat A' (MapI k r f * F') := by
  obtain ⟨es, hg, hf, hS⟩ := MapI.get h
  refine ⟨_, hg, fun k0 a v hv => ?_, fun k0 a hv => ?_, hS, fun {A' F'} h' => ?_⟩
  · obtain ⟨q, h1, h2, _⟩ := afindKey_int (k0 := k0) (k := k) (a := a) es 0
    rw [hf, hv] at h2
    cases q with
    | none => cases h2
    | some q => obtain ⟨j, u⟩ := q; injection h2 with h2; simp only at h2; subst h2; exact ⟨j, h1⟩
  · obtain ⟨q, h1, h2, _⟩ := afindKey_int (k0 := k0) (k := k) (a := a) es 0
    rw [hf, hv] at h2
    cases q with
    | none => exact h1
    | some q => cases h2
  · unfold MapI
    rw [Sat.ex]
    refine ⟨es, ?_⟩
    rw [HP.mul_assoc, Sat.pr]
    exact ⟨hf, h'⟩

theorem MapI.new {A : AW} {k : IntKind} {F : HP} (h : Sat A F) (hw : A.Wf) : Sat (A.alloc (.map [] true)) (MapI k A.next (fun _ => none) * F) := by
  unfold MapI
  rw [Sat.ex]
  refine ⟨[], ?_⟩
  rw [HP.mul_assoc, Sat.pr]
  exact ⟨fun a => rfl, h.alloc hw _⟩

def updI (f : Int → Option Value) (a : Int) (v : Value) : Int → Option Value := fun b => if b = a then some v else f b

/-- m[a] = v. -/
theorem MapI.update {P : Program} {A : AW} {t kt e : TypeId} {k0 k : IntKind} {r : Nat} {f : Int → Option Value} {F : HP} (h : Sat A (MapI k r f * F)) (ht : P.underlying t = some (.map kt e)) (hk : P.underlying kt = some (.int k0)) (a : Int) (v : Value) :
    ∃ A', amapUpdate P A t (.map (some r)) (.int k a) v = some A' ∧ Sat A' (MapI k r (updI f a v) * F) ∧ (A.Wf → A'.Wf) ∧ A'.next = A.next ∧ ∀ j, j ≠ r → A'.get j = A.get j := by
  obtain ⟨es, hg, hf, hS⟩ := MapI.get h
  obtain ⟨q, h1, h2, h3⟩ := afindKey_int (k0 := k0) (k := k) (a := a) es 0
  have fin : ∀ es' : List (Int × Value), (∀ b, assocI es' b = updI f a v b) → Sat (A.set r (some (.map (rowsI k es') true))) (MapI k r (updI f a v) * F) := fun es' he => by
    unfold MapI
    rw [Sat.ex]
    refine ⟨es', ?_⟩
    rw [HP.mul_assoc, Sat.pr]
    exact ⟨he, hS.set _⟩
  cases q with
  | none =>
    refine ⟨A.set r (some (.map (rowsI k (es ++ [(a, v)])) true)), ?_, fin _ fun b => ?_, fun hw => hw.set _ (hw.lt hg), rfl, fun j hj => AW.set_get_ne hj⟩
    · simp only [amapUpdate, ht, hk, hg, isKeyDesc, if_true, h1]
      simp [rowsI]
    · rw [assocI_append (by rw [← h2]; rfl)]
      simp only [updI, hf]
  | some q =>
    obtain ⟨j, u⟩ := q
    obtain ⟨j', g1, g2, g3⟩ := h3 j u rfl
    refine ⟨A.set r (some (.map (rowsI k (es.set j' (a, v))) true)), ?_, fin _ fun b => ?_, fun hw => hw.set _ (hw.lt hg), rfl, fun j hj => AW.set_get_ne hj⟩
    · simp only [amapUpdate, ht, hk, hg, isKeyDesc, if_true, h1]
      have : j = j' := by omega
      subst this
      simp [rowsI, List.map_set]
    · rw [g3]
      simp only [updI, hf]

end Go.Stx
