/-
  What a call has made and nobody holds any more is forgotten: the memory behind the call is named exactly.
-/
import Derived.Test.YtajhaafmlnoioaaStxSimp
namespace Go.Stx
open Go
set_option linter.unusedVariables false

/-- The value speaks of no block from n on. -/
def VBelow (n : Nat) (v : Value) : Prop := ∀ (m m' : Mp) (x : Value), VRel m v x → (∀ i, i < n → m' i = m i) → VRel m' v x

theorem VBelow.of_scalar {n : Nat} {v : Value} (h : scalarV v = true) : VBelow n v := fun m m' x hx _ => by
  have := hx.eq_of_scalar h
  subst this
  exact .of_scalar h m'
theorem VBelow.ptrNone {n : Nat} : VBelow n (.pointer none) := fun m m' x hx _ => by cases hx; constructor
theorem VBelow.sliceNone {n a b : Nat} : VBelow n (.slice none a b) := fun m m' x hx _ => by cases hx; constructor
theorem VBelow.mapNone {n : Nat} : VBelow n (.map none) := fun m m' x hx _ => by cases hx; constructor
theorem VBelow.nilFunc {n : Nat} : VBelow n .nilFunc := fun m m' x hx _ => by cases hx; constructor
theorem VBelow.nilIface {n : Nat} : VBelow n .nilIface := fun m m' x hx _ => by cases hx; constructor
theorem VBelow.ptr {n : Nat} {a : Addr} (h : a.block < n) : VBelow n (.pointer (some a)) := fun m m' x hx e => by
  cases hx with
  | ptr h' =>
    obtain ⟨h1, h2, p, h3, h4⟩ := h'
    exact .ptr ⟨h1, h2, p, by rw [e _ h]; exact h3, h4⟩
theorem VBelow.map {n r : Nat} (h : r < n) : VBelow n (.map (some r)) := fun m m' x hx e => by
  cases hx with
  | map h' =>
    obtain ⟨p, h3, h4⟩ := h'
    exact .map ⟨p, by rw [e _ h]; exact h3, h4⟩
theorem VBelow.slice {n a b : Nat} {p : Addr} (h : p.block < n) : VBelow n (.slice (some p) a b) := fun m m' x hx e => by
  cases hx with
  | slice h' g1 g2 =>
    refine .slice ?_ g1 g2
    rcases h' with ⟨h1, h2, q, h3, h4⟩ | ⟨h1, h2, h3⟩
    · exact .inl ⟨h1, h2, q, by rw [e _ h]; exact h3, h4⟩
    · exact .inr ⟨h1, h2, h3.imp id fun k => by rw [e _ h]; exact k⟩
theorem VBelow.iface {n : Nat} {t : TypeId} {v : Value} (h : VBelow n v) : VBelow n (.iface t v) := fun m m' x hx e => by
  cases hx with
  | iface _ h' => exact .iface t (h m m' _ h' e)
theorem VBelow.agg {n : Nat} {vs : Array Value} (h : ∀ v ∈ vs.toList, VBelow n v) : VBelow n (.agg vs) := fun m m' x hx e => by
  cases hx with
  | agg h1 h2 => exact .agg h1 fun i v v' e1 e2 => h v (Array.mem_toList_iff.2 (Array.mem_of_getElem? e1)) m m' v' (h2 i v v' e1 e2) e
theorem VBelow.tuple {n : Nat} {vs : Array Value} (h : ∀ v ∈ vs.toList, VBelow n v) : VBelow n (.tuple vs) := fun m m' x hx e => by
  cases hx with
  | tuple h1 h2 => exact .tuple h1 fun i v v' e1 e2 => h v (Array.mem_toList_iff.2 (Array.mem_of_getElem? e1)) m m' v' (h2 i v v' e1 e2) e
theorem VBelow.func {n : Nat} {fn : Fn} {xs ys : Array Value} (h : ∀ v ∈ xs.toList, VBelow n v) (k : ∀ v ∈ ys.toList, VBelow n v) : VBelow n (.func fn xs ys) := fun m m' x hx e => by
  cases hx with
  | func _ h1 h2 h3 h4 =>
    exact .func fn h1 h2 (fun i v v' e1 e2 => h v (Array.mem_toList_iff.2 (Array.mem_of_getElem? e1)) m m' v' (h3 i v v' e1 e2) e)
      (fun i v v' e1 e2 => k v (Array.mem_toList_iff.2 (Array.mem_of_getElem? e1)) m m' v' (h4 i v v' e1 e2) e)
@[simp] theorem VBelow.int {n : Nat} {k : IntKind} {x : Int} : VBelow n (.int k x) := fun m m' x hx _ => by cases hx; constructor
@[simp] theorem VBelow.bool {n : Nat} {x : Bool} : VBelow n (.bool x) := fun m m' x hx _ => by cases hx; constructor
@[simp] theorem VBelow.string {n : Nat} {x : ByteArray} : VBelow n (.string x) := fun m m' x hx _ => by cases hx; constructor
attribute [simp] VBelow.ptrNone VBelow.sliceNone VBelow.mapNone VBelow.nilFunc VBelow.nilIface

theorem ARel.restrict {m m' : Mp} {a a' : Addr} (h : ARel m a a') (e : ∀ p, m a.block = some p → m' a.block = some p) : ARel m' a a' := by
  obtain ⟨h1, h2, p, h3, h4⟩ := h
  exact ⟨h1, h2, p, e p h3, h4⟩
theorem SRel.restrict {m m' : Mp} {a a' : Addr} {c : Nat} (h : SRel m a a' c) (e : ∀ p, m a.block = some p → m' a.block = some p) : SRel m' a a' c := by
  obtain ⟨h1, h2, p, h3, h4⟩ := h
  exact ⟨h1, h2, p, e p h3, h4⟩

/-- What m relates is within m's blocks: any later map that agrees there relates it as well. -/
theorem VRel.within {m m1 m2 : Mp} (hag : ∀ i, m i ≠ none → m2 i = m1 i) {v x : Value} (h : VRel m v x) : ∀ y, VRel m1 v y → VRel m2 v y := by
  have some_ne : ∀ {i : Nat} {p : Pl}, m i = some p → m2 i = m1 i := fun h => hag _ (by rw [h]; exact Option.some_ne_none _)
  induction h with
  | bool b => intro y hy; cases hy; constructor
  | int k n => intro y hy; cases hy; constructor
  | float k n => intro y hy; cases hy; constructor
  | complex k x y => intro y hy; cases hy; constructor
  | string s => intro y hy; cases hy; constructor
  | ptrNone => intro y hy; cases hy; constructor
  | ptr h =>
    intro y hy
    obtain ⟨_, _, p, hp, _⟩ := h
    cases hy with
    | ptr h' => exact .ptr (h'.restrict fun q hq => by rw [some_ne hp]; exact hq)
  | sliceNone => intro y hy; cases hy; constructor
  | slice h h1 h2 =>
    intro y hy
    cases hy with
    | slice h' h1' h2' =>
      rename_i a _ _ _ _ _ _
      have key : m2 a.block = m1 a.block ∨ a.spot.isSome = true := by
        rcases h with ⟨hs0, _, p, hp, _⟩ | ⟨hl, _, hsp | hb⟩
        · exact .inl (some_ne hp)
        · exact .inr hsp
        · exact .inl (hag _ hb)
      rcases key with hb | hsp
      · refine .slice ?_ h1' h2'
        rcases h' with s | ⟨e1, e2, e3⟩
        · exact .inl (s.restrict fun q hq => by rw [hb]; exact hq)
        · exact .inr ⟨e1, e2, e3.imp id fun e => by rw [hb]; exact e⟩
      · refine .slice ?_ h1' h2'
        rcases h' with s | ⟨e1, e2, e3⟩
        · have := s.1
          rw [this] at hsp
          cases hsp
        · exact .inr ⟨e1, e2, .inl hsp⟩
  | mapNone => intro y hy; cases hy; constructor
  | map h =>
    intro y hy
    obtain ⟨p, hp, _⟩ := h
    cases hy with
    | map h' =>
      obtain ⟨q, hq, e⟩ := h'
      exact .map ⟨q, by rw [some_ne hp]; exact hq, e⟩
  | chanNone => intro y hy; cases hy; constructor
  | func fn hx hy h1 h2 ih1 ih2 =>
    intro y hy'
    rename_i x x' z z'
    cases hy' with
    | func _ kx ky g1 g2 =>
      refine .func fn kx ky (fun i v v' e1 e2 => ?_) (fun i v v' e1 e2 => ?_)
      · have hlt : i < x'.size := by rw [← hx]; exact (Array.getElem?_eq_some_iff.1 e1).1
        exact ih1 i v _ e1 (Array.getElem?_eq_getElem hlt) v' (g1 i v v' e1 e2)
      · have hlt : i < z'.size := by rw [← hy]; exact (Array.getElem?_eq_some_iff.1 e1).1
        exact ih2 i v _ e1 (Array.getElem?_eq_getElem hlt) v' (g2 i v v' e1 e2)
  | nilFunc => intro y hy; cases hy; constructor
  | iface t _ ih => intro y hy; cases hy with | iface _ h' => exact .iface t (ih _ h')
  | nilIface => intro y hy; cases hy; constructor
  | agg hx _ ih =>
    intro y hy'
    rename_i x x' _
    cases hy' with
    | agg kx g1 =>
      refine .agg kx (fun i v v' e1 e2 => ?_)
      have hlt : i < x'.size := by rw [← hx]; exact (Array.getElem?_eq_some_iff.1 e1).1
      exact ih i v _ e1 (Array.getElem?_eq_getElem hlt) v' (g1 i v v' e1 e2)
  | tuple hx _ ih =>
    intro y hy'
    rename_i x x' _
    cases hy' with
    | tuple kx g1 =>
      refine .tuple kx (fun i v v' e1 e2 => ?_)
      have hlt : i < x'.size := by rw [← hx]; exact (Array.getElem?_eq_some_iff.1 e1).1
      exact ih i v _ e1 (Array.getElem?_eq_getElem hlt) v' (g1 i v v' e1 e2)

def OBelow (n : Nat) : AObj → Prop
  | .cells cs _ _ => ∀ c ∈ cs, VBelow n c
  | .map es _ => ∀ e ∈ es, VBelow n e.1 ∧ VBelow n e.2

/-- The memory behind the call, without what nobody holds. -/
theorem ACall.gc {P : Program} {f : FuncId} {args : List Value} {A X : AW} {V : Value} (hX : X.next = A.next) (hV : VBelow A.next V)
    (hO : ∀ i o, X.get i = some o → i < A.next ∧ (A.get i = some o ∨ OBelow A.next o))
    (h : ACall P f args A fun v A' => v = V ∧ ∀ i o, X.get i = some o → A'.get i = some o) : ACall P f args A fun v A' => v = V ∧ X = A' := by
  refine ⟨h.1, fun m w cargs hs hl => (h.2 m w cargs hs hl).mono ?_⟩
  rintro e w' ⟨v, v', m', A', rfl, ev, hv, rfl, hg⟩
  let m2 : Mp := fun i => if i < A.next then m' i else none
  have hlow : ∀ i, m i ≠ none → i < A.next := fun i hi => by
    rcases Nat.lt_or_ge i A.next with h | h
    · exact h
    · exact absurd (hs.fresh i h) hi
  have h2 : ∀ i, i < A.next → m2 i = m' i := fun i hi => if_pos hi
  have hle : Mp.le m m2 := fun i p hi => by
    have := hlow i (by rw [hi]; exact Option.some_ne_none _)
    rw [h2 i this]
    exact ev.ext i p hi
  have hbel : ∀ {u x : Value}, VBelow A.next u → VRel m' u x → VRel m2 u x := fun hb hr => hb m' m2 _ hr h2
  have hag : ∀ i, m i ≠ none → m2 i = m' i := fun i hi => h2 i (hlow i hi)
  refine ⟨v, v', m2, X, rfl, ⟨hle, ⟨?_, ?_, ?_, ?_⟩, by omega, ev.os, ev.tape, ev.output, ev.size, ev.out, ?_⟩, hbel hV hv, rfl, rfl⟩
  · intro i o hi
    obtain ⟨p, hp, hm⟩ := ev.sim.obj i o (hg i o hi)
    obtain ⟨hlt, hor⟩ := hO i o hi
    refine ⟨p, by rw [h2 i hlt]; exact hp, ?_⟩
    rcases hor with hA | hB
    · obtain ⟨p0, hp0, hm0⟩ := hs.obj i o hA
      cases o with
      | cells cs own u =>
        obtain ⟨cur, e1, fr, g1, g2, g3, g4, g5⟩ := hm
        obtain ⟨_, _, _, _, _, _, _, k5⟩ := hm0
        refine ⟨cur, e1, fr, g1, g2, g3, g4, fun k u hu => ?_⟩
        obtain ⟨y, hy, hr⟩ := g5 k u hu
        obtain ⟨x, _, hr0⟩ := k5 k u hu
        exact ⟨y, hy, hr0.within hag y hr⟩
      | map es own =>
        obtain ⟨ents, clock, g1, g2, g3⟩ := hm
        obtain ⟨ents0, _, _, k2, k3⟩ := hm0
        refine ⟨ents, clock, g1, g2, fun k x e hx he => ?_⟩
        have hlt : k < ents0.size := by rw [← k2]; exact (List.getElem?_eq_some_iff.1 hx).1
        have q := k3 k x _ hx (Array.getElem?_eq_getElem hlt)
        have r := g3 k x e hx he
        exact ⟨q.1.within hag _ r.1, q.2.within hag _ r.2⟩
    · cases o with
      | cells cs own u =>
        obtain ⟨cur, e1, fr, g1, g2, g3, g4, g5⟩ := hm
        refine ⟨cur, e1, fr, g1, g2, g3, g4, fun k u hu => ?_⟩
        obtain ⟨y, hy, hr⟩ := g5 k u hu
        exact ⟨y, hy, hbel (hB u (List.mem_of_getElem? hu)) hr⟩
      | map es own =>
        obtain ⟨ents, clock, g1, g2, g3⟩ := hm
        refine ⟨ents, clock, g1, g2, fun k x e hx he => ?_⟩
        have r := g3 k x e hx he
        have b := hB x (List.mem_of_getElem? hx)
        exact ⟨hbel b.1 r.1, hbel b.2 r.2⟩
  · intro i j o o' p p' hi ho hj hne hpi hpj
    rw [h2 i (hO i o hi).1] at hpi
    rw [h2 j (hO j o' hj).1] at hpj
    exact ev.sim.inj i j o o' p p' (hg i o hi) ho (hg j o' hj) hne hpi hpj
  · intro i hi
    exact if_neg (by omega)
  · intro i hi
    cases hx : X.get i with
    | none => rfl
    | some o => have := (hO i o hx).1; omega
  · rintro b ⟨i, o, p, hi, ho, hp, hb⟩
    rw [h2 i (hO i o hi).1] at hp
    exact ev.grow b ⟨i, o, p, hg i o hi, ho, hp, hb⟩

/-- A call that leaves all as it was, and whose answer speaks of nothing new. -/
theorem ACall.gc0 {P : Program} {f : FuncId} {args : List Value} {A : AW} {V : Value} (hV : VBelow A.next V)
    (h : A.Wf → ACall P f args A fun v A' => v = V ∧ A.le A') (hc : callable P f = true) : ACall P f args A fun v A' => v = V ∧ A = A' := by
  have key : A.Wf → ACall P f args A fun v A' => v = V ∧ A = A' := fun hw =>
    ACall.gc rfl hV (fun i o hi => ⟨hw.lt hi, .inl hi⟩) ((h hw).mono fun v A' ⟨h1, h2⟩ => ⟨h1, fun i o hi => h2.keep hw hi⟩)
  exact ⟨hc, fun m w cargs hs hl => (key hs.low).2 m w cargs hs hl⟩

/-- One object turned, all else as it was. -/
theorem ACall.gc1 {P : Program} {f : FuncId} {args : List Value} {A : AW} {V : Value} {b : Nat} {o1 : AObj} (hw : A.Wf) (hb : b < A.next) (hV : VBelow A.next V) (hO : OBelow A.next o1)
    (h : ACall P f args A fun v A' => v = V ∧ ∀ i o, (A.set b (some o1)).get i = some o → A'.get i = some o) : ACall P f args A fun v A' => v = V ∧ A.set b (some o1) = A' := by
  refine ACall.gc (AW.set_next _ _ _) hV (fun i o hi => ?_) h
  by_cases e : i = b
  · subst e
    rw [AW.set_get_same] at hi
    injection hi with hi
    subst hi
    exact ⟨hb, .inr hO⟩
  · rw [AW.set_get_ne e] at hi
    exact ⟨hw.lt hi, .inl hi⟩

end Go.Stx
