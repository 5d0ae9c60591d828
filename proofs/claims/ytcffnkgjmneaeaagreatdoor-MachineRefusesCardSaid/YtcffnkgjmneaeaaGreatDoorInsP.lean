/-
  Programs of instructions: what the program's check says and what the document's check says are the same (plain law, no program in sight).
-/
namespace Go.Stx
set_option linter.unusedVariables false
set_option linter.unusedSimpArgs false

structure InsV where
  op : Int
  a : Int
  b : Int
  c : Int
  imm : Int
deriving DecidableEq

def useA (op : Int) : Bool := op == 1 || op == 2 || op == 3 || op == 5 || op == 6 || op == 10 || op == 11 || op == 12 || op == 13 || op == 14 || op == 15 || op == 17
def useB (op : Int) : Bool := op == 2 || op == 3 || op == 10 || op == 11 || op == 12 || op == 13
def useC (op : Int) : Bool := op == 3
def regOk (r : Int) (is : Bool) : Bool := if is then decide (0 ≤ r) && decide (r < 8) else decide (r = 0)
def numOk (op imm : Int) : Bool :=
  if op = 1 ∨ op = 10 ∨ op = 11 ∨ op = 12 ∨ op = 13 then true
  else if op = 3 then decide (0 ≤ imm) && decide (imm < 22)
  else if op = 4 ∨ op = 5 ∨ op = 6 then decide (0 ≤ imm) && decide (imm ≤ 64)
  else if op = 7 then decide (1 ≤ imm) && decide (imm ≤ 8)
  else if op = 14 then decide (0 ≤ imm) && decide (imm < 4)
  else decide (imm = 0)
def insErr (i : InsV) : Int :=
  if i.op < 0 ∨ 18 ≤ i.op then 10
  else if (regOk i.a (useA i.op) && regOk i.b (useB i.op) && regOk i.c (useC i.op)) && numOk i.op i.imm then 0 else 11
def insPlace (i : InsV) : Int :=
  if insErr i = 0 then
    if i.op = 8 ∨ i.op = 9 ∨ i.op = 10 ∨ i.op = 11 ∨ i.op = 14 ∨ i.op = 15 then 1
    else if i.op = 7 ∨ i.op = 12 ∨ i.op = 13 ∨ i.op = 16 ∨ i.op = 17 then 2 else 0
  else 0
def insSkips (i : InsV) : Option Int := if insErr i = 0 ∧ (i.op = 4 ∨ i.op = 5 ∨ i.op = 6) then some i.imm else none

def insOp (p : List InsV) (k : Nat) : Int := (p[k]?.map (·.op)).getD (-1)

/-- The first commit at k or behind, or the length. -/
def nextC (p : List InsV) (k : Nat) : Nat := k + (p.drop k).findIdx fun i => i.op == 8
def progEnd (p : List InsV) (b : Nat) : Nat := nextC p (b + 1)

/-- The transaction that is open ahead of k. -/
def scanB (p : List InsV) : Nat → Option Nat
  | 0 => none
  | k + 1 => match scanB p k with
    | none => if insOp p k = 7 then some k else none
    | some b => if insOp p k = 8 then none else some b

theorem scanB_some {p : List InsV} : ∀ {t b : Nat}, scanB p t = some b → b < t ∧ insOp p b = 7 ∧ ∀ j, b < j → j < t → insOp p j ≠ 8
  | 0, b, h => by cases h
  | t + 1, b, h => by
    unfold scanB at h
    split at h
    · split at h
      · rename_i h7
        injection h with h
        subst h
        exact ⟨Nat.lt_succ_self _, h7, fun j h1 h2 => by omega⟩
      · cases h
    · rename_i b' hb
      split at h
      · cases h
      · rename_i h8
        injection h with h
        subst h
        obtain ⟨h1, h2, h3⟩ := scanB_some hb
        refine ⟨by omega, h2, fun j h4 h5 => ?_⟩
        by_cases e : j = t
        · subst e; exact h8
        · exact h3 j h4 (by omega)

theorem scanB_open {p : List InsV} {b : Nat} (hb : insOp p b = 7) : ∀ {t : Nat}, b < t → (∀ j, b < j → j < t → insOp p j ≠ 8) → ∃ b', scanB p t = some b'
  | 0, h, _ => by omega
  | t + 1, h, hn => by
    unfold scanB
    by_cases e : b = t
    · subst e
      cases hs : scanB p b with
      | none => exact ⟨b, by simp [hb]⟩
      | some b' => exact ⟨b', by simp [hb]⟩
    · obtain ⟨b', h'⟩ := scanB_open hb (t := t) (by omega) (fun j h1 h2 => hn j h1 (by omega))
      rw [h']
      have := hn t (by omega) (by omega)
      exact ⟨b', by simp [this]⟩

theorem scanB_from {p : List InsV} {k : Nat} (hk : scanB p k = none) : ∀ {t b : Nat}, k ≤ t → scanB p t = some b → k ≤ b
  | t, b, hkt, h => by
    obtain ⟨h1, h2, h3⟩ := scanB_some h
    rcases Nat.lt_or_ge b k with h4 | h4
    · obtain ⟨b', h'⟩ := scanB_open h2 h4 (fun j h5 h6 => h3 j h5 (by omega))
      rw [hk] at h'
      cases h'
    · exact h4

theorem insOp_lt {p : List InsV} {k : Nat} (h : 0 ≤ insOp p k) : k < p.length := by
  rcases Nat.lt_or_ge k p.length with h1 | h1
  · exact h1
  · unfold insOp at h
    rw [List.getElem?_eq_none h1] at h
    simp at h

theorem nextC_step {p : List InsV} {k : Nat} (h : k < p.length) : nextC p k = if insOp p k = 8 then k else nextC p (k + 1) := by
  unfold nextC
  have e : p.drop k = p[k] :: p.drop (k + 1) := List.drop_eq_getElem_cons h
  have e2 : insOp p k = p[k].op := by simp [insOp, List.getElem?_eq_getElem h]
  rw [e, List.findIdx_cons, e2]
  by_cases h8 : p[k].op = 8
  · simp [h8]
  · have e3 : (p[k].op == 8) = false := by simpa using h8
    rw [if_neg h8, e3]
    simp only [cond_false]
    omega
theorem nextC_end {p : List InsV} {k : Nat} (h : p.length ≤ k) : nextC p k = k := by
  unfold nextC
  rw [List.drop_eq_nil_of_le h]
  rfl
theorem nextC_spec {p : List InsV} {k : Nat} (h : k ≤ p.length) : k ≤ nextC p k ∧ nextC p k ≤ p.length ∧ (∀ j, k ≤ j → j < nextC p k → insOp p j ≠ 8) ∧ (nextC p k < p.length → insOp p (nextC p k) = 8) := by
  induction hn : p.length - k generalizing k with
  | zero =>
    have : k = p.length := by omega
    rw [nextC_end (by omega)]
    exact ⟨Nat.le_refl _, h, fun j h1 h2 => by omega, fun h1 => by omega⟩
  | succ n ih =>
    rw [nextC_step (by omega)]
    split
    · rename_i h8
      exact ⟨Nat.le_refl _, h, fun j h1 h2 => by omega, fun _ => h8⟩
    · rename_i h8
      obtain ⟨h1, h2, h3, h4⟩ := ih (k := k + 1) (by omega) (by omega)
      refine ⟨by omega, h2, fun j h5 h6 => ?_, h4⟩
      by_cases e : j = k
      · subst e; exact h8
      · exact h3 j (by omega) h6

/-! ### The program's check -/

def progInto (p : List InsV) (k t : Nat) : Bool := (List.range t).any fun b => decide (k < b) && decide (insOp p b = 7) && decide (t ≤ min (progEnd p b) (p.length - 1))
def progTarget (p : List InsV) (k : Nat) (b : Option Nat) (n : Int) : Bool :=
  let t : Nat := k + 1 + n.toNat
  if p.length < t then false else match b with
  | some b => decide (t ≤ progEnd p b)
  | none => !progInto p k t

/-! ### The document's check -/

def spanGo (p : List InsV) (t : Nat) : Nat → Nat → Option Nat → Option (Nat × Nat)
  | 0, _, b => match b with
    | some b => if b ≤ t ∧ t < p.length then some (b, p.length) else none
    | none => none
  | n + 1, k, b => match b with
    | none => spanGo p t n (k + 1) (if insOp p k = 7 then some k else none)
    | some b => if insOp p k = 8 then (if b ≤ t ∧ t ≤ k then some (b, k) else spanGo p t n (k + 1) none) else spanGo p t n (k + 1) (some b)
def spanF (p : List InsV) (t : Nat) : Option (Nat × Nat) := spanGo p t p.length 0 none

/-- The scan from the front reaches k in the state of scanB, if t lies behind. -/
theorem span_at {p : List InsV} {t : Nat} : ∀ {k n : Nat}, k + n = p.length → k ≤ t → spanF p t = spanGo p t n k (scanB p k)
  | 0, n, h, _ => by
    have : n = p.length := by omega
    subst this
    rfl
  | k + 1, n, h, hk => by
    rw [span_at (k := k) (n := n + 1) (by omega) (by omega)]
    conv => lhs; unfold spanGo
    conv => rhs; rw [scanB]
    cases hb : scanB p k with
    | none => rfl
    | some b =>
      simp only
      by_cases h8 : insOp p k = 8
      · rw [if_pos h8, if_pos h8, if_neg (by omega)]
      · rw [if_neg h8, if_neg h8]

theorem span_none {p : List InsV} {t : Nat} : ∀ {n k : Nat}, t < k → spanGo p t n k none = none
  | 0, k, _ => rfl
  | n + 1, k, h => by
    unfold spanGo
    by_cases h7 : insOp p k = 7
    · rw [if_pos h7]
      exact span_late h (by omega)
    · rw [if_neg h7]
      exact span_none (by omega)
where
  span_late {p : List InsV} {t : Nat} : ∀ {n k b : Nat}, t < b → b < k → spanGo p t n k (some b) = none
  | 0, k, b, h, _ => by unfold spanGo; simp; omega
  | n + 1, k, b, h, hk => by
    unfold spanGo
    simp only
    split
    · rw [if_neg (by omega)]
      exact span_none (by omega)
    · exact span_late h (by omega)

theorem span_open {p : List InsV} {t b : Nat} (hb : b ≤ t) : ∀ {n k : Nat}, k + n = p.length → t ≤ k → t < p.length → spanGo p t n k (some b) = some (b, nextC p k)
  | 0, k, h, _, ht => by
    unfold spanGo
    rw [nextC_end (by omega)]
    simp only
    rw [if_pos ⟨hb, ht⟩]
    rw [show k = p.length by omega]
  | n + 1, k, h, hk, ht => by
    unfold spanGo
    rw [nextC_step (by omega)]
    simp only
    by_cases h8 : insOp p k = 8
    · rw [if_pos h8, if_pos h8, if_pos ⟨hb, hk⟩]
    · rw [if_neg h8, if_neg h8]
      exact span_open hb (by omega) (by omega) ht

/-- The document's question for the transaction around a position. -/
theorem spanF_eq {p : List InsV} {t : Nat} (ht : t ≤ p.length) : spanF p t = match scanB p t with
    | some b => if t < p.length then some (b, nextC p t) else none
    | none => if insOp p t = 7 then some (t, progEnd p t) else none := by
  rw [span_at (k := t) (n := p.length - t) (by omega) (Nat.le_refl t)]
  cases hb : scanB p t with
  | some b =>
    obtain ⟨h1, h2, h3⟩ := scanB_some hb
    simp only
    split
    · exact span_open (by omega) (by omega) (Nat.le_refl t) (by assumption)
    · have : p.length - t = 0 := by omega
      rw [this]
      unfold spanGo
      simp only
      rw [if_neg (by omega)]
  | none =>
    simp only
    cases hn : p.length - t with
    | zero =>
      have h7 : insOp p t ≠ 7 := fun h => by
        have := insOp_lt (p := p) (k := t) (by omega)
        omega
      rw [if_neg h7]
      rfl
    | succ n =>
      unfold spanGo
      simp only
      by_cases h7 : insOp p t = 7
      · rw [if_pos h7, if_pos h7]
        have := insOp_lt (p := p) (k := t) (by omega)
        by_cases hl : t + 1 ≤ p.length
        · exact span_open1 (by omega) (by omega) this
        · omega
      · rw [if_neg h7, if_neg h7]
        exact span_none (by omega)
where
  span_open1 {p : List InsV} {t : Nat} : ∀ {n k : Nat}, k + n = p.length → t < k → t < p.length → spanGo p t n k (some t) = some (t, nextC p k)
  | n, k, h, hk, ht => span_open (Nat.le_refl t) h (by omega) ht

def refReach (p : List InsV) (k t : Nat) : Bool :=
  if p.length < t then false else match spanF p k with
  | some (_, c) => decide (t ≤ c)
  | none => match spanF p t with
    | some (b, _) => decide (b = t)
    | none => true

theorem into_iff {p : List InsV} {k t : Nat} (hk : scanB p k = none) (h7 : insOp p k ≠ 7) (hkt : k < t) (ht : t ≤ p.length) : progInto p k t = true ↔ t < p.length ∧ ∃ b, scanB p t = some b := by
  unfold progInto
  rw [List.any_eq_true]
  constructor
  · rintro ⟨b, hb, h⟩
    simp only [Bool.and_eq_true, decide_eq_true_eq] at h
    have hbt := List.mem_range.1 hb
    obtain ⟨⟨h1, h2⟩, h3⟩ := h
    have h4 : t ≤ progEnd p b := by omega
    have hbl := insOp_lt (p := p) (k := b) (by omega)
    refine ⟨by omega, scanB_open h2 hbt fun j h5 h6 => ?_⟩
    exact (nextC_spec (p := p) (k := b + 1) (by omega)).2.2.1 j (by omega) (by unfold progEnd at h4; omega)
  · rintro ⟨h1, b, hb⟩
    obtain ⟨h2, h3, h4⟩ := scanB_some hb
    have h5 := scanB_from hk (by omega) hb
    have h6 : b ≠ k := fun e => h7 (by rw [← e]; exact h3)
    refine ⟨b, List.mem_range.2 h2, ?_⟩
    simp only [Bool.and_eq_true, decide_eq_true_eq]
    refine ⟨⟨by omega, h3⟩, ?_⟩
    have h7 : t ≤ progEnd p b := by
      rcases Nat.lt_or_ge (progEnd p b) t with h8 | h8
      · obtain ⟨g1, g2, g3, g4⟩ := nextC_spec (p := p) (k := b + 1) (by omega)
        unfold progEnd at h8
        exact absurd (g4 (by omega)) (h4 _ (by omega) h8)
      · exact h8
    omega

/-- A jump's target is permitted by both or by neither. -/
theorem target_eq {p : List InsV} {k : Nat} (hk : k < p.length) (h7 : insOp p k ≠ 7) (h8 : insOp p k ≠ 8) {n : Int} : refReach p k (k + 1 + n.toNat) = progTarget p k (scanB p k) n := by
  unfold refReach progTarget
  simp only
  generalize ht : k + 1 + n.toNat = t
  by_cases hl : p.length < t
  · rw [if_pos hl, if_pos hl]
  · rw [if_neg hl, if_neg hl, spanF_eq (by omega : k ≤ p.length)]
    cases hb : scanB p k with
    | some b =>
      simp only
      rw [if_pos hk]
      obtain ⟨h1, h2, h3⟩ := scanB_some hb
      have e : progEnd p b = nextC p k := by
        have : ∀ d, b + 1 + d = k → nextC p (b + 1) = nextC p (b + 1 + d) := by
          intro d
          induction d with
          | zero => intro _; rfl
          | succ d ih =>
            intro hd
            have key : ∀ q, b < q → q ≤ k → nextC p (b + 1) = nextC p q := by
              intro q
              induction q with
              | zero => intro h; omega
              | succ q ihq =>
                intro h5 h6
                by_cases e : b = q
                · subst e; rfl
                · rw [ihq (by omega) (by omega), nextC_step (by omega), if_neg (h3 q (by omega) (by omega))]
            exact key _ (by omega) (by omega)
        have h9 := this (k - (b + 1)) (by omega)
        rw [show b + 1 + (k - (b + 1)) = k by omega] at h9
        exact h9
      rw [e]
    | none =>
      simp only
      rw [if_neg h7, spanF_eq (by omega)]
      have hi := into_iff hb h7 (t := t) (by omega) (by omega)
      cases hs : scanB p t with
      | some b =>
        obtain ⟨h1, _, _⟩ := scanB_some hs
        simp only
        by_cases hlt : t < p.length
        · have : progInto p k t = true := hi.2 ⟨hlt, b, hs⟩
          rw [if_pos hlt, this]
          have : ¬ b = t := by omega
          simp [this]
        · have : progInto p k t = false := by
            cases hp : progInto p k t with
            | false => rfl
            | true => exact absurd (hi.1 hp).1 hlt
          rw [if_neg hlt, this]
          rfl
      | none =>
        have : progInto p k t = false := by
          cases hp : progInto p k t with
          | false => rfl
          | true => obtain ⟨b, hb'⟩ := (hi.1 hp).2; rw [hs] at hb'; cases hb'
        rw [this]
        simp only
        by_cases h9 : insOp p t = 7
        · simp [h9]
        · simp [h9]

/-! ### The whole check -/

def oneE (tgt : Nat → Option Nat → Int → Bool) (k : Nat) (b : Option Nat) (x : InsV) : Int :=
  if insErr x = 0 then
    if (x.op = 7 ∧ b.isSome = true) ∨ (x.op = 8 ∧ b.isSome = false) then 40
    else if (insPlace x = 1 ∧ b.isSome = false) ∨ (insPlace x = 2 ∧ b.isSome = true) then 41
    else match insSkips x with
      | some n => if tgt k b n = true then 0 else 42
      | none => 0
  else insErr x

def nextB (k : Nat) (b : Option Nat) (x : InsV) : Option Nat := if x.op = 7 then some k else if x.op = 8 then none else b

def checkGo (tgt : Nat → Option Nat → Int → Bool) : List InsV → Nat → Option Nat → Nat × Int
  | [], _, b => match b with
    | some q => (q, 43)
    | none => (0, 0)
  | x :: l, k, b => if oneE tgt k b x = 0 then checkGo tgt l (k + 1) (nextB k b x) else (k, oneE tgt k b x)

def progCheck (p : List InsV) : Nat × Int := if 64 < p.length then (0, 3) else checkGo (progTarget p) p 0 none
def refCheck (p : List InsV) : Nat × Int := if 64 < p.length then (0, 3) else checkGo (fun k _ n => refReach p k (k + 1 + n.toNat)) p 0 none

theorem skips_some {x : InsV} {n : Int} (h : insSkips x = some n) : n = x.imm ∧ insErr x = 0 ∧ (x.op = 4 ∨ x.op = 5 ∨ x.op = 6) := by
  unfold insSkips at h
  split at h
  · rename_i h1
    injection h with h
    exact ⟨h.symm, h1.1, h1.2⟩
  · cases h

theorem insOp_get {p : List InsV} {k : Nat} {x : InsV} (h : p[k]? = some x) : insOp p k = x.op := by simp [insOp, h]

/-- A position that passes leaves the scan's own state. -/
theorem nextB_scan {tgt : Nat → Option Nat → Int → Bool} {p : List InsV} {k : Nat} {x : InsV} (hx : p[k]? = some x) (h : oneE tgt k (scanB p k) x = 0) : nextB k (scanB p k) x = scanB p (k + 1) := by
  have e := insOp_get hx
  unfold nextB
  rw [scanB]
  cases hb : scanB p k with
  | none =>
    simp only
    rw [e]
    by_cases h7 : x.op = 7
    · rw [if_pos h7, if_pos h7]
    · rw [if_neg h7, if_neg h7]
      split <;> rfl
  | some b =>
    simp only
    rw [e]
    have h7 : x.op ≠ 7 := fun h7 => by
      rw [hb] at h
      unfold oneE at h
      split at h
      · rw [if_pos (.inl ⟨h7, rfl⟩)] at h
        cases h
      · rename_i h0; exact h0 h
    rw [if_neg h7]

theorem oneE_eq {p : List InsV} {k : Nat} {x : InsV} (hx : p[k]? = some x) : oneE (fun k _ n => refReach p k (k + 1 + n.toNat)) k (scanB p k) x = oneE (progTarget p) k (scanB p k) x := by
  unfold oneE
  split
  · split
    · rfl
    · split
      · rfl
      · cases hs : insSkips x with
        | none => rfl
        | some n =>
          obtain ⟨rfl, _, h3⟩ := skips_some hs
          have e := insOp_get hx
          have ht := target_eq (n := x.imm) (List.getElem?_eq_some_iff.1 hx).1 (show insOp p k ≠ 7 by rw [e]; omega) (show insOp p k ≠ 8 by rw [e]; omega)
          simp only [ht]
  · rfl

theorem checkGo_eq {p : List InsV} : ∀ (l : List InsV) (k : Nat), p.drop k = l → checkGo (fun k _ n => refReach p k (k + 1 + n.toNat)) l k (scanB p k) = checkGo (progTarget p) l k (scanB p k)
  | [], k, _ => rfl
  | x :: l, k, h => by
    have hx : p[k]? = some x := by
      have := congrArg (fun q => q[0]?) h
      simpa using this
    unfold checkGo
    rw [oneE_eq hx]
    split
    · rename_i h0
      rw [nextB_scan hx h0]
      exact checkGo_eq l (k + 1) (by rw [← List.drop_drop, h]; rfl)
    · rfl

theorem check_eq (p : List InsV) : refCheck p = progCheck p := by
  unfold refCheck progCheck
  split
  · rfl
  · exact checkGo_eq p 0 rfl

/-- What passes: every position, in the scan's state; nothing stays open. -/
theorem checkGo_ok {tgt : Nat → Option Nat → Int → Bool} {p : List InsV} : ∀ (l : List InsV) (k : Nat), p.drop k = l → (checkGo tgt l k (scanB p k)).2 = 0 →
    (∀ j x, k ≤ j → p[j]? = some x → oneE tgt j (scanB p j) x = 0) ∧ scanB p (k + l.length) = none
  | [], k, h, h0 => by
    refine ⟨fun j x hj hx => ?_, ?_⟩
    · have h1 := (List.getElem?_eq_some_iff.1 hx).1
      have h2 : p.length ≤ k := by
        rcases Nat.lt_or_ge k p.length with h3 | h3
        · rw [List.drop_eq_getElem_cons h3] at h; cases h
        · exact h3
      omega
    · unfold checkGo at h0
      show scanB p k = none
      cases hb : scanB p k with
      | none => rfl
      | some b => rw [hb] at h0; cases h0
  | x :: l, k, h, h0 => by
    have hx : p[k]? = some x := by
      have := congrArg (fun q => q[0]?) h
      simpa using this
    unfold checkGo at h0
    split at h0
    · rename_i h1
      rw [nextB_scan hx h1] at h0
      obtain ⟨h2, h3⟩ := checkGo_ok l (k + 1) (by rw [← List.drop_drop, h]; rfl) h0
      refine ⟨fun j y hj hy => ?_, by rw [List.length_cons, show k + (l.length + 1) = k + 1 + l.length by omega]; exact h3⟩
      by_cases e : j = k
      · subst e
        rw [hx] at hy
        injection hy with hy
        subst hy
        exact h1
      · exact h2 j y (by omega) hy
    · rename_i h1
      exact absurd h0 h1

theorem progCheck_ok {p : List InsV} (h : (progCheck p).2 = 0) : p.length ≤ 64 ∧ (∀ j x, p[j]? = some x → oneE (progTarget p) j (scanB p j) x = 0) ∧ scanB p p.length = none := by
  unfold progCheck at h
  split at h
  · cases h
  · rename_i hl
    obtain ⟨h1, h2⟩ := checkGo_ok p 0 rfl h
    rw [Nat.zero_add] at h2
    exact ⟨by omega, fun j x hx => h1 j x (Nat.zero_le _) hx, h2⟩

/-! ### The longest path -/

def progAfter (p : List InsV) (k : Nat) : List Nat := match p[k]? with
  | some x =>
    if x.op = 4 then [k + 1 + x.imm.toNat]
    else if x.op = 5 ∨ x.op = 6 then [k + 1, k + 1 + x.imm.toNat]
    else if x.op = 9 then [progEnd p k + 1]
    else [k + 1]
  | none => []
def refNext (p : List InsV) (k : Nat) : List Nat := match p[k]? with
  | some x =>
    if x.op = 4 then [k + 1 + x.imm.toNat]
    else if x.op = 5 ∨ x.op = 6 then [k + 1, k + 1 + x.imm.toNat]
    else if x.op = 9 then [match spanF p k with | some (_, c) => c + 1 | none => 0]
    else [k + 1]
  | none => []

theorem progEnd_next {p : List InsV} {k : Nat} (h : k < p.length) (h8 : insOp p k ≠ 8) : progEnd p k = nextC p k := by
  rw [nextC_step h, if_neg h8]; rfl

theorem place_abort {x : InsV} (h : x.op = 9) (h0 : insErr x = 0) : insPlace x = 1 := by
  unfold insPlace
  rw [if_pos h0, if_pos (by omega)]

/-- A position that passes and is an abort lies in a transaction. -/
theorem abort_open {p : List InsV} {k : Nat} {x : InsV} {b : Option Nat} (h9 : x.op = 9) (h : oneE (progTarget p) k b x = 0) : ∃ q, b = some q := by
  unfold oneE at h
  split at h
  · rename_i h0
    split at h
    · cases h
    · split at h
      · cases h
      · rename_i h2
        cases b with
        | some q => exact ⟨q, rfl⟩
        | none => exact absurd (.inl ⟨place_abort h9 h0, rfl⟩) h2
  · rename_i h0; exact absurd h h0

theorem insErr_imm {x : InsV} (h : insErr x = 0) (ho : x.op = 4 ∨ x.op = 5 ∨ x.op = 6) : 0 ≤ x.imm ∧ x.imm ≤ 64 := by
  unfold insErr at h
  split at h
  · cases h
  · split at h
    · rename_i h1
      rw [Bool.and_eq_true] at h1
      have h2 := h1.2
      unfold numOk at h2
      rw [if_neg (by omega), if_neg (by omega), if_pos ho] at h2
      simpa using h2
    · cases h

/-- Where a valid program goes on: behind, and not beyond its end. -/
theorem after_lt {p : List InsV} (hv : (progCheck p).2 = 0) {k t : Nat} (ht : t ∈ progAfter p k) : k < t ∧ t ≤ p.length := by
  obtain ⟨hl, h1, h2⟩ := progCheck_ok hv
  unfold progAfter at ht
  split at ht
  · rename_i x hx
    have hk := (List.getElem?_eq_some_iff.1 hx).1
    have he := insOp_get hx
    have h3 := h1 k x hx
    have h0 : insErr x = 0 := by
      rcases Decidable.em (insErr x = 0) with h | h
      · exact h
      · unfold oneE at h3; rw [if_neg h] at h3; exact absurd h3 h
    have tgt : (x.op = 4 ∨ x.op = 5 ∨ x.op = 6) → k + 1 + x.imm.toNat ≤ p.length := fun ho => by
      unfold oneE at h3
      rw [if_pos h0] at h3
      split at h3
      · cases h3
      · split at h3
        · cases h3
        · have hs : insSkips x = some x.imm := by unfold insSkips; rw [if_pos ⟨h0, ho⟩]
          rw [hs] at h3
          simp only at h3
          split at h3
          · rename_i hp
            unfold progTarget at hp
            simp only at hp
            split at hp
            · cases hp
            · omega
          · cases h3
    split at ht
    · rename_i h4
      have := tgt (.inl h4)
      simp at ht; omega
    · split at ht
      · rename_i h5
        have := tgt (.inr h5)
        simp at ht; omega
      · split at ht
        · rename_i h9
          obtain ⟨b, hb⟩ := abort_open h9 h3
          have e := progEnd_next (p := p) hk (by rw [he]; omega)
          obtain ⟨g1, g2, g3, g4⟩ := nextC_spec (p := p) (k := k) (by omega)
          have hlt : nextC p k < p.length := by
            rcases Nat.lt_or_ge (nextC p k) p.length with h | h
            · exact h
            · obtain ⟨q1, q2, q3⟩ := scanB_some hb
              obtain ⟨b', hb'⟩ := scanB_open q2 (t := p.length) (by omega) (fun j j1 j2 => by
                rcases Nat.lt_or_ge j k with hj | hj
                · exact q3 j j1 hj
                · exact g3 j hj (by omega))
              rw [h2] at hb'
              cases hb'
          simp at ht; omega
        · simp at ht; omega
  · cases ht

theorem next_eq {p : List InsV} (hv : (progCheck p).2 = 0) (k : Nat) : refNext p k = progAfter p k := by
  obtain ⟨hl, h1, h2⟩ := progCheck_ok hv
  unfold refNext progAfter
  cases hx : p[k]? with
  | none => rfl
  | some x =>
    have hk := (List.getElem?_eq_some_iff.1 hx).1
    have he := insOp_get hx
    simp only
    split
    · rfl
    · split
      · rfl
      · split
        · rename_i h9
          obtain ⟨b, hb⟩ := abort_open h9 (h1 k x hx)
          rw [spanF_eq (by omega), hb, progEnd_next hk (by rw [he]; omega)]
          simp only
          rw [if_pos hk]
        · rfl

/-- The table of the longest paths, filled from the end: d positions are done. -/
def mostT (p : List InsV) : Nat → Nat → Int
  | 0, _ => 0
  | d + 1, j => if j = p.length - (d + 1) then (progAfter p j).foldl (fun m t => max m (mostT p d t + 1)) 0 else mostT p d j
def longest (p : List InsV) : Int := mostT p p.length 0
def bestT (p : List InsV) : Nat → Nat → Int
  | 0, _ => 0
  | d + 1, j => if j = p.length - (d + 1) then (refNext p j).foldl (fun m t => if t ≤ p.length ∧ 0 ≤ bestT p d t then max m (bestT p d t + 1) else m) (-1) else bestT p d j

theorem fold_eq {f g : Nat → Int} {n : Nat} : ∀ (l : List Nat) (a : Int), (∀ t ∈ l, t ≤ n ∧ f t = g t ∧ 0 ≤ f t) → l.foldl (fun m t => if t ≤ n ∧ 0 ≤ g t then max m (g t + 1) else m) a = l.foldl (fun m t => max m (f t + 1)) a
  | [], a, _ => rfl
  | t :: l, a, h => by
    obtain ⟨h1, h2, h3⟩ := h t (by simp)
    rw [List.foldl_cons, List.foldl_cons, if_pos ⟨h1, by omega⟩, h2]
    exact fold_eq l _ fun x hx => h x (by simp [hx])

theorem fold_ge {f : Nat → Int} : ∀ (l : List Nat) (a : Int), a ≤ l.foldl (fun m t => max m (f t + 1)) a
  | [], a => Int.le_refl a
  | t :: l, a => by
    rw [List.foldl_cons]
    exact Int.le_trans (by omega) (fold_ge l _)

theorem fold_start {f : Nat → Int} {l : List Nat} (hl : l ≠ []) (h : ∀ t ∈ l, 0 ≤ f t) : l.foldl (fun m t => max m (f t + 1)) (-1) = l.foldl (fun m t => max m (f t + 1)) 0 := by
  cases l with
  | nil => exact absurd rfl hl
  | cons t l =>
    rw [List.foldl_cons, List.foldl_cons]
    have := h t (by simp)
    congr 1
    omega

theorem after_ne {p : List InsV} {k : Nat} (hk : k < p.length) : progAfter p k ≠ [] := by
  unfold progAfter
  rw [List.getElem?_eq_getElem hk]
  simp only
  split
  · simp
  · split
    · simp
    · split <;> simp

theorem best_eq {p : List InsV} (hv : (progCheck p).2 = 0) : ∀ (d : Nat), d ≤ p.length → ∀ j, p.length - d ≤ j → j ≤ p.length → bestT p d j = mostT p d j ∧ 0 ≤ mostT p d j
  | 0, _, j, _, _ => ⟨rfl, Int.le_refl 0⟩
  | d + 1, hd, j, h1, h2 => by
    unfold bestT mostT
    by_cases e : j = p.length - (d + 1)
    · rw [if_pos e, if_pos e, next_eq hv]
      have key : ∀ t ∈ progAfter p j, t ≤ p.length ∧ mostT p d t = bestT p d t ∧ 0 ≤ mostT p d t := fun t ht => by
        obtain ⟨g1, g2⟩ := after_lt hv ht
        obtain ⟨g3, g4⟩ := best_eq hv d (by omega) t (by omega) g2
        exact ⟨g2, g3.symm, g4⟩
      rw [fold_eq _ _ key, fold_start (after_ne (by omega)) fun t ht => (key t ht).2.2]
      exact ⟨rfl, fold_ge _ 0⟩
    · rw [if_neg e, if_neg e]
      exact best_eq hv d (by omega) j (by omega) h2

theorem longest_eq {p : List InsV} (hv : (progCheck p).2 = 0) : bestT p p.length 0 = longest p := (best_eq hv p.length (Nat.le_refl _) 0 (by omega) (by omega)).1

end Go.Stx
