/-
  Three threads that lock and release come to an end: without the program.
-/
import Derived.Test.YtajhaafmlnoioaaLockX
namespace Go.Stx
open Go Go.Proofs
attribute [local irreducible] AWP LWalk ACall ARounds lops nops
set_option linter.unusedVariables false
set_option linter.unusedSimpArgs false

structure LCfg where
  M : Nat → List Int
  th : Ths

/-- One thread's step: it locks, or releases all that it has. -/
def pureT (L : Nat → List Int) (t : Nat) (c : LCfg) : LCfg := match c.th t with
  | none => c
  | some s => if s.done = true then ⟨relM (L t) c.M (L t).length, updT c.th t none⟩ else ⟨(lockStep s c.M).2.2, updT c.th t (some (lockStep s c.M).2.1)⟩
def partF (L : Nat → List Int) : Nat → LCfg → LCfg
  | 0, c => c
  | t + 1, c => pureT L t (partF L t c)
def itF (L : Nat → List Int) : Nat → LCfg → LCfg
  | 0, c => c
  | r + 1, c => partF L 3 (itF L r c)

theorem linv_pureT {L : Nat → List Int} {c : LCfg} (hL : ∀ t, t < 3 → OrecsOk (L t)) (h : LInv L c.M c.th) (t : Nat) : LInv L (pureT L t c).M (pureT L t c).th := by
  unfold pureT
  split
  · exact h
  · rename_i s hs
    by_cases hd : s.done = true
    · rw [if_pos hd]; exact linv_release hL h hs hd
    · rw [if_neg hd]; exact linv_step hL h hs
theorem linv_part {L : Nat → List Int} {c : LCfg} (hL : ∀ t, t < 3 → OrecsOk (L t)) (h : LInv L c.M c.th) : ∀ t, LInv L (partF L t c).M (partF L t c).th
  | 0 => h
  | t + 1 => linv_pureT hL (linv_part hL h t) t
theorem linv_it {L : Nat → List Int} {c : LCfg} (hL : ∀ t, t < 3 → OrecsOk (L t)) (h : LInv L c.M c.th) : ∀ r, LInv L (itF L r c).M (itF L r c).th
  | 0 => h
  | r + 1 => linv_part hL (linv_it hL h r) 3

def leftT (L : Nat → List Int) (th : Ths) (t : Nat) : Nat := match th t with
  | none => 0
  | some s => 1 + ((L t).length - s.old.length)
def leftF (L : Nat → List Int) (th : Ths) : Nat := leftT L th 0 + leftT L th 1 + leftT L th 2

theorem leftF_upd {L : Nat → List Int} {th : Ths} {t : Nat} (ht : t < 3) (so : Option LockS) : leftF L (updT th t so) + leftT L th t = leftF L th + leftT L (updT th t so) t := by
  have : t = 0 ∨ t = 1 ∨ t = 2 := by omega
  rcases this with rfl | rfl | rfl <;> simp [leftF, leftT, updT] <;> omega

/-- What a step does to the count: it falls, or the words stay and only this thread's own glance has turned. -/
theorem pureT_left {L : Nat → List Int} {c : LCfg} (hL : ∀ t, t < 3 → OrecsOk (L t)) (h : LInv L c.M c.th) {t : Nat} (ht : t < 3) :
    leftF L (pureT L t c).th < leftF L c.th ∨ (leftF L (pureT L t c).th = leftF L c.th ∧ (pureT L t c).M = c.M ∧ (∀ u, u ≠ t → (pureT L t c).th u = c.th u) ∧
      ∀ s, c.th t = some s → s.done = false ∧ ∃ s', (pureT L t c).th t = some s' ∧ s'.old = s.old ∧ s'.orecs = s.orecs ∧
        (ow c.M (orec (L t) s.old.length).toNat = 0 → s.loaded = false ∧ s'.loaded = true)) := by
  unfold pureT
  cases hs : c.th t with
  | none => exact .inr ⟨rfl, rfl, fun u _ => rfl, fun s hs' => (by cases hs')⟩
  | some s =>
    obtain ⟨k1, k2, k3, k4, k5, k6⟩ := h.ok t s hs
    simp only
    by_cases hd : s.done = true
    · rw [if_pos hd]
      left
      have := leftF_upd (L := L) (th := c.th) ht none
      have e1 : leftT L (updT c.th t none) t = 0 := by simp [leftT, updT]
      have e2 : leftT L c.th t = 1 + ((L t).length - s.old.length) := by simp [leftT, hs]
      simp only
      omega
    · rw [if_neg hd]
      have hd' : s.done = false := by simpa using hd
      have hlt : s.old.length < (L t).length := by
        have : ¬ s.old.length = s.orecs.length := by simpa [LockS.done] using hd
        rw [k3] at this
        omega
      have hidx : lockIdx s = orec (L t) s.old.length := by unfold lockIdx orec; rw [k3]
      have hr := (hL t k1).at hlt
      have e2 : leftT L c.th t = 1 + ((L t).length - s.old.length) := by simp [leftT, hs]
      have same : ∀ s' : LockS, s'.old = s.old → leftF L (updT c.th t (some s')) = leftF L c.th := fun s' ho => by
        have := leftF_upd (L := L) (th := c.th) ht (some s')
        have e1 : leftT L (updT c.th t (some s')) t = 1 + ((L t).length - s.old.length) := by simp [leftT, updT, ho]
        omega
      have off : ∀ s' : LockS, ∀ u, u ≠ t → updT c.th t (some s') u = c.th u := fun s' u hu => by simp [updT, hu]
      by_cases hld : s.loaded = false
      · obtain ⟨s', hs'⟩ : ∃ s' : LockS, s' = { s with seen := ow c.M (orec (L t) s.old.length).toNat, loaded := decide (holderF (ow c.M (orec (L t) s.old.length).toNat) < 0) } := ⟨_, rfl⟩
        have e : (lockStep s c.M).2 = (s', c.M) := by
          unfold lockStep
          rw [if_neg hd, hidx, if_pos hld, op_load h.w6 hr, hs']
        rw [e]
        right
        have ho : s'.old = s.old := by rw [hs']
        refine ⟨same _ ho, rfl, off _, fun s1 hs1 => ?_⟩
        injection hs1 with hs1
        subst hs1
        refine ⟨hd', s', by simp [updT], ho, by rw [hs'], fun h0 => ⟨hld, ?_⟩⟩
        rw [hs']
        simp only [h0, decide_eq_true_eq]
        decide
      · have hsn := k6 (by simpa using hld)
        by_cases h0 : ow c.M (orec (L t) s.old.length).toNat = 0
        · obtain ⟨s', hs'⟩ : ∃ s' : LockS, s' = { s with loaded := false, old := s.old ++ [s.seen] } := ⟨_, rfl⟩
          have e : (lockStep s c.M).2.1 = s' := by
            unfold lockStep
            rw [if_neg hd, hidx, if_neg hld, op_swap h.w6 hr, hs']
            simp [h0, hsn]
          rw [e]
          left
          have := leftF_upd (L := L) (th := c.th) ht (some s')
          have e1 : leftT L (updT c.th t (some s')) t = 1 + ((L t).length - (s.old.length + 1)) := by simp [leftT, updT, hs']
          simp only
          omega
        · obtain ⟨s', hs'⟩ : ∃ s' : LockS, s' = { s with loaded := false } := ⟨_, rfl⟩
          have e : (lockStep s c.M).2 = (s', c.M) := by
            unfold lockStep
            rw [if_neg hd, hidx, if_neg hld, op_swap h.w6 hr, opM_swap h.w6 hr, hs', hsn]
            simp [h0]
          rw [e]
          right
          have ho : s'.old = s.old := by rw [hs']
          refine ⟨same _ ho, rfl, off _, fun s1 hs1 => ?_⟩
          injection hs1 with hs1
          subst hs1
          exact ⟨hd', s', by simp [updT], ho, by rw [hs'], fun h1 => absurd h1 h0⟩

theorem pureT_le {L : Nat → List Int} {c : LCfg} (hL : ∀ t, t < 3 → OrecsOk (L t)) (h : LInv L c.M c.th) {t : Nat} (ht : t < 3) : leftF L (pureT L t c).th ≤ leftF L c.th := by
  rcases pureT_left hL h ht with g | g
  · omega
  · omega

/-- A round in which the count stays. -/
theorem round_same {L : Nat → List Int} {c : LCfg} (hL : ∀ t, t < 3 → OrecsOk (L t)) (h : LInv L c.M c.th) (e : leftF L (partF L 3 c).th = leftF L c.th) :
    (partF L 3 c).M = c.M ∧ ∀ t, t < 3 → ∀ s, c.th t = some s → s.done = false ∧ ∃ s', (partF L 3 c).th t = some s' ∧ s'.old = s.old ∧ s'.orecs = s.orecs ∧
        (ow c.M (orec (L t) s.old.length).toNat = 0 → s.loaded = false ∧ s'.loaded = true) := by
  have h1 := linv_pureT hL h 0
  have h2 := linv_pureT hL h1 1
  have d0 := pureT_left hL h (t := 0) (by omega)
  have d1 := pureT_left hL h1 (t := 1) (by omega)
  have d2 := pureT_left hL h2 (t := 2) (by omega)
  have l0 := pureT_le hL h (t := 0) (by omega)
  have l1 := pureT_le hL h1 (t := 1) (by omega)
  have l2 := pureT_le hL h2 (t := 2) (by omega)
  have e' : leftF L (pureT L 2 (pureT L 1 (pureT L 0 c))).th = leftF L c.th := e
  have d0' := d0.resolve_left (by omega)
  have d1' := d1.resolve_left (by omega)
  have d2' := d2.resolve_left (by omega)
  obtain ⟨_, m0, o0, s0⟩ := d0'
  obtain ⟨_, m1, o1, s1⟩ := d1'
  obtain ⟨_, m2, o2, s2⟩ := d2'
  have eM : (partF L 3 c).M = c.M := by show (pureT L 2 (pureT L 1 (pureT L 0 c))).M = c.M; rw [m2, m1, m0]
  refine ⟨eM, fun t ht s hs => ?_⟩
  have : t = 0 ∨ t = 1 ∨ t = 2 := by omega
  rcases this with rfl | rfl | rfl
  · obtain ⟨g1, s', g2, g3⟩ := s0 s hs
    refine ⟨g1, s', ?_, g3⟩
    show (pureT L 2 (pureT L 1 (pureT L 0 c))).th 0 = some s'
    rw [o2 0 (by omega), o1 0 (by omega), g2]
  · obtain ⟨g1, s', g2, g3⟩ := s1 s (by rw [o0 1 (by omega), hs])
    rw [m0] at g3
    refine ⟨g1, s', ?_, g3⟩
    show (pureT L 2 (pureT L 1 (pureT L 0 c))).th 1 = some s'
    rw [o2 1 (by omega), g2]
  · obtain ⟨g1, s', g2, g3⟩ := s2 s (by rw [o1 2 (by omega), o0 2 (by omega), hs])
    rw [m1, m0] at g3
    exact ⟨g1, s', g2, g3⟩

theorem round_le {L : Nat → List Int} {c : LCfg} (hL : ∀ t, t < 3 → OrecsOk (L t)) (h : LInv L c.M c.th) : leftF L (partF L 3 c).th ≤ leftF L c.th := by
  have h1 := linv_pureT hL h 0
  have h2 := linv_pureT hL h1 1
  have l0 := pureT_le hL h (t := 0) (by omega)
  have l1 := pureT_le hL h1 (t := 1) (by omega)
  have l2 := pureT_le hL h2 (t := 2) (by omega)
  show leftF L (pureT L 2 (pureT L 1 (pureT L 0 c))).th ≤ _
  omega

/-- The highest orec that a thread holds. -/
def topH (L : Nat → List Int) (th : Ths) (t : Nat) : Int := match th t with
  | none => -2
  | some s => if s.old.length = 0 then -1 else orec (L t) (s.old.length - 1)

theorem exists_top (f : Nat → Int) : ∃ t, t < 3 ∧ ∀ u, u < 3 → f u ≤ f t := by
  have key : ∀ a, a < 3 → (f 0 ≤ f a ∧ f 1 ≤ f a ∧ f 2 ≤ f a) → ∃ t, t < 3 ∧ ∀ u, u < 3 → f u ≤ f t := fun a ha h => ⟨a, ha, fun u hu => by
    have : u = 0 ∨ u = 1 ∨ u = 2 := by omega
    rcases this with rfl | rfl | rfl
    · exact h.1
    · exact h.2.1
    · exact h.2.2⟩
  by_cases h1 : f 0 ≤ f 1
  · by_cases h2 : f 1 ≤ f 2
    · exact key 2 (by omega) ⟨by omega, h2, Int.le_refl _⟩
    · exact key 1 (by omega) ⟨h1, Int.le_refl _, by omega⟩
  · by_cases h2 : f 0 ≤ f 2
    · exact key 2 (by omega) ⟨h2, by omega, Int.le_refl _⟩
    · exact key 0 (by omega) ⟨Int.le_refl _, by omega, by omega⟩

/-- Some thread's next orec is free, or a thread has all it wants. -/
theorem exists_free {L : Nat → List Int} {c : LCfg} (hL : ∀ t, t < 3 → OrecsOk (L t)) (h : LInv L c.M c.th) (hp : 0 < leftF L c.th) :
    ∃ t s, t < 3 ∧ c.th t = some s ∧ (s.done = true ∨ ow c.M (orec (L t) s.old.length).toNat = 0) := by
  obtain ⟨t, ht, hmax⟩ := exists_top (topH L c.th)
  have hge : ∀ u s, c.th u = some s → -1 ≤ topH L c.th u := fun u s hs => by
    obtain ⟨k1, k2, k3, k4, k5, k6⟩ := h.ok u s hs
    simp only [topH, hs]
    split
    · omega
    · have := (hL u k1).at (k := s.old.length - 1) (by omega)
      omega
  cases hs : c.th t with
  | none =>
    exfalso
    have ht2 : topH L c.th t = -2 := by simp [topH, hs]
    have all : ∀ u, u < 3 → c.th u = none := fun u hu => by
      cases hu' : c.th u with
      | none => rfl
      | some s => have := hge u s hu'; have := hmax u hu; omega
    have : leftF L c.th = 0 := by simp [leftF, leftT, all 0 (by omega), all 1 (by omega), all 2 (by omega)]
    omega
  | some s =>
    obtain ⟨k1, k2, k3, k4, k5, k6⟩ := h.ok t s hs
    refine ⟨t, s, ht, hs, ?_⟩
    by_cases hd : s.done = true
    · exact .inl hd
    right
    have hlt : s.old.length < (L t).length := by
      have : ¬ s.old.length = s.orecs.length := by simpa [LockS.done] using hd
      rw [k3] at this
      omega
    have hr := (hL t k1).at hlt
    rcases h.free (orec (L t) s.old.length).toNat (by omega) with g | ⟨u, x, k, g1, g2, g3, g4⟩
    · exact g
    · exfalso
      obtain ⟨j1, j2, j3, j4, j5, j6⟩ := h.ok u x g1
      have hm := hmax u j1
      have htu : topH L c.th u = orec (L u) (x.old.length - 1) := by
        simp only [topH, g1]; rw [if_neg (by omega)]
      have htt : topH L c.th t < orec (L t) s.old.length := by
        simp only [topH, hs]
        split
        · omega
        · exact (hL t k1).mono (by omega) hlt
      have hkk : orec (L u) k ≤ orec (L u) (x.old.length - 1) := by
        by_cases e : k = x.old.length - 1
        · rw [e]; exact Int.le_refl _
        · exact Int.le_of_lt ((hL u j1).mono (by omega) (by omega))
      omega

/-- In two rounds the count falls. -/
theorem two_rounds {L : Nat → List Int} {c : LCfg} (hL : ∀ t, t < 3 → OrecsOk (L t)) (h : LInv L c.M c.th) (hp : 0 < leftF L c.th) : leftF L (partF L 3 (partF L 3 c)).th < leftF L c.th := by
  have l1 := round_le hL h
  have h1 := linv_part hL h 3
  have l2 := round_le hL h1
  by_cases e1 : leftF L (partF L 3 c).th = leftF L c.th
  · by_cases e2 : leftF L (partF L 3 (partF L 3 c)).th = leftF L (partF L 3 c).th
    · exfalso
      obtain ⟨m1, r1⟩ := round_same hL h e1
      obtain ⟨m2, r2⟩ := round_same hL h1 e2
      obtain ⟨t, s, ht, hs, hf⟩ := exists_free hL h hp
      obtain ⟨g1, s', g2, g3, g4, g5⟩ := r1 t ht s hs
      rcases hf with hf | hf
      · rw [g1] at hf; cases hf
      · have h5 := (g5 hf).2
        obtain ⟨q1, s2, q2, q3, q4, q5⟩ := r2 t ht s' g2
        rw [m1, g3] at q5
        have := (q5 hf).1
        rw [h5] at this
        cases this
    · omega
  · omega

theorem it_left {L : Nat → List Int} {c : LCfg} (hL : ∀ t, t < 3 → OrecsOk (L t)) (h : LInv L c.M c.th) : ∀ k, leftF L (itF L (2 * k) c).th = 0 ∨ leftF L (itF L (2 * k) c).th + k ≤ leftF L c.th
  | 0 => .inr (by show leftF L c.th + 0 ≤ _; omega)
  | k + 1 => by
    have hk := linv_it hL h (2 * k)
    have e : itF L (2 * (k + 1)) c = partF L 3 (partF L 3 (itF L (2 * k) c)) := rfl
    rw [e]
    by_cases hp : 0 < leftF L (itF L (2 * k) c).th
    · have := two_rounds hL hk hp
      rcases it_left hL h k with g | g
      · omega
      · right; omega
    · left
      have l1 := round_le hL hk
      have l2 := round_le hL (linv_part hL hk 3)
      omega

theorem leftF_max {L : Nat → List Int} {c : LCfg} (hL : ∀ t, t < 3 → OrecsOk (L t)) (h : LInv L c.M c.th) : leftF L c.th ≤ 21 := by
  have key : ∀ t, t < 3 → leftT L c.th t ≤ 7 := fun t ht => by
    have := (hL t ht).len
    unfold leftT
    split
    · omega
    · omega
  have := key 0 (by omega)
  have := key 1 (by omega)
  have := key 2 (by omega)
  unfold leftF
  omega

theorem all_gone {L : Nat → List Int} {c : LCfg} (hL : ∀ t, t < 3 → OrecsOk (L t)) (h : LInv L c.M c.th) : (∀ t, t < 3 → (itF L 120 c).th t = none) ∧ ∀ o, o < 6 → ow (itF L 120 c).M o = 0 := by
  have h0 := linv_it hL h 120
  have hz : leftF L (itF L 120 c).th = 0 := by
    have h1 : leftF L (itF L 120 c).th = 0 ∨ leftF L (itF L 120 c).th + 60 ≤ leftF L c.th := it_left hL h 60
    have h2 := leftF_max hL h
    omega
  generalize itF L 120 c = d at h0 hz
  have hn : ∀ t, t < 3 → d.th t = none := fun t ht => by
    have key : leftT L d.th t = 0 := by
      have : t = 0 ∨ t = 1 ∨ t = 2 := by omega
      unfold leftF at hz
      rcases this with rfl | rfl | rfl <;> omega
    unfold leftT at key
    split at key
    · assumption
    · omega
  refine ⟨hn, fun o ho => ?_⟩
  rcases h0.free o ho with g | ⟨t, s, k, g1, _⟩
  · exact g
  · rw [hn t (h0.ok t s g1).1] at g1
    cases g1

end Go.Stx
