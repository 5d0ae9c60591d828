/-
  Steps as texts, in plain Lean: words, lines, numerals; what is read of a text of steps. No program in sight.
-/
import Derived.Lib.ItoaMem
import Derived.Lib.Join
import Derived.Lib.Split
import Derived.Lib.ParseIntB
import Derived.Lib.ParseIntBCases
import Derived.Lib.AtoiAllCases
namespace Go.Stx
open Go
set_option linter.unusedVariables false
set_option linter.unusedSimpArgs false

abbrev BS := List UInt8

/-! ### Pieces -/

/-- A text cut at each c. -/
def pieces (c : UInt8) : BS → List BS
  | [] => [[]]
  | b :: r => if b = c then [] :: pieces c r else match pieces c r with | h :: t => (b :: h) :: t | [] => [[b]]

/-- The lines of a text. -/
def linesOf : BS → List BS
  | [] => []
  | b :: r => if b = 10 then [] :: linesOf r else match linesOf r with | h :: t => (b :: h) :: t | [] => [[b]]

theorem pieces_none (c : UInt8) : ∀ a : BS, c ∉ a → pieces c a = [a]
  | [], _ => rfl
  | b :: a, h => by
    have h1 : b ≠ c := fun e => h (by simp [e])
    rw [pieces, if_neg h1, pieces_none c a fun e => h (by simp [e])]

theorem pieces_hit (c : UInt8) (r : BS) : ∀ a : BS, c ∉ a → pieces c (a ++ c :: r) = a :: pieces c r
  | [], _ => by simp [pieces]
  | b :: a, h => by
    have h1 : b ≠ c := fun e => h (by simp [e])
    rw [List.cons_append, pieces, if_neg h1, pieces_hit c r a fun e => h (by simp [e])]

theorem lines_none : ∀ a : BS, (10 : UInt8) ∉ a → a ≠ [] → linesOf a = [a]
  | [], _, h => absurd rfl h
  | [b], h, _ => by
    have h1 : b ≠ 10 := fun e => h (by simp [e])
    simp [linesOf, h1]
  | b :: x :: a, h, _ => by
    have h1 : b ≠ 10 := fun e => h (by simp [e])
    rw [linesOf, if_neg h1, lines_none (x :: a) (fun e => h (List.mem_cons_of_mem _ e)) (by simp)]

theorem lines_hit (r : BS) : ∀ a : BS, (10 : UInt8) ∉ a → linesOf (a ++ 10 :: r) = a :: linesOf r
  | [], _ => by simp [linesOf]
  | b :: a, h => by
    have h1 : b ≠ 10 := fun e => h (by simp [e])
    rw [List.cons_append, linesOf, if_neg h1, lines_hit r a fun e => h (by simp [e])]

theorem at_first (c : UInt8) : ∀ s : BS, c ∉ s ∨ ∃ a r, s = a ++ c :: r ∧ c ∉ a
  | [] => .inl (by simp)
  | b :: s => by
    by_cases h : b = c
    · exact .inr ⟨[], s, by simp [h], by simp⟩
    · rcases at_first c s with h1 | ⟨a, r, rfl, h1⟩
      · exact .inl (by simp [h1, Ne.symm h])
      · exact .inr ⟨b :: a, r, by simp, by simp [h1, Ne.symm h]⟩

theorem index_no (c : UInt8) : ∀ s : BS, c ∉ s → Lib.index s [c] = -1
  | [], _ => by simp [Lib.index]
  | b :: s, h => by
    have h1 : c ≠ b := fun e => h (by simp [e])
    have h2 : ([c] : BS).isPrefixOf (b :: s) = false := by simp [List.isPrefixOf, h1]
    rw [Lib.index, h2, index_no c s fun e => h (by simp [e])]
    rfl

theorem index_yes (c : UInt8) (r : BS) : ∀ a : BS, c ∉ a → Lib.index (a ++ c :: r) [c] = a.length
  | [], _ => by simp [Lib.index, List.isPrefixOf]
  | b :: a, h => by
    have h1 : c ≠ b := fun e => h (by simp [e])
    have h2 : ([c] : BS).isPrefixOf (b :: (a ++ c :: r)) = false := by simp [List.isPrefixOf, h1]
    rw [List.cons_append, Lib.index, h2, index_yes c r a fun e => h (by simp [e])]
    have h3 : ((a.length : Int) == -1) = false := by rw [beq_eq_false_iff_ne]; omega
    simp [h3]

theorem cut_no (c : UInt8) (s : BS) (h : c ∉ s) : Lib.cut s [c] = (s, [], false) := by
  unfold Lib.cut
  rw [index_no c s h, if_neg (by omega)]

theorem cut_yes (c : UInt8) (a r : BS) (h : c ∉ a) : Lib.cut (a ++ c :: r) [c] = (a, r, true) := by
  unfold Lib.cut
  rw [index_yes c r a h, if_pos (by omega)]
  simp

theorem split_count (c : UInt8) : ∀ (n : Nat) (s : BS), s.length ≤ n → Lib.split s [c] = pieces c s ∧ (pieces c s).length = Lib.count s [c] + 1
  | n, s, hn => by
    rcases at_first c s with h | ⟨a, r, rfl, h⟩
    · have h1 := index_no c s h
      have h2 : Lib.count s [c] = 0 := Lib.count_miss h1
      rw [pieces_none c s h]
      refine ⟨?_, by simp [h2]⟩
      unfold Lib.split
      rw [h2]; rfl
    · match n with
      | 0 => simp at hn
      | n + 1 =>
        have h1 := index_yes c r a h
        have h2 : Lib.count (a ++ c :: r) [c] = 1 + Lib.count ((a ++ c :: r).drop (a.length + 1)) [c] := Lib.count_hit (by simp) h1
        have h3 : (a ++ c :: r).drop (a.length + 1) = r := by simp
        rw [h3] at h2
        obtain ⟨h4, h5⟩ := split_count c n r (by simp at hn; omega)
        rw [pieces_hit c r a h]
        refine ⟨?_, by simp [h2, h5]; omega⟩
        rw [← h4]
        unfold Lib.split
        rw [h2, Nat.add_comm, Lib.splitK, h1]
        have h6 : ((a.length : Int) == -1) = false := by rw [beq_eq_false_iff_ne]; omega
        simp [h6]

theorem split_eq (c : UInt8) (s : BS) : Lib.split s [c] = pieces c s := (split_count c s.length s (Nat.le_refl _)).1
theorem split_len (c : UInt8) (s : BS) : (Lib.split s [c]).length = Lib.count s [c] + 1 := by
  rw [split_eq]; exact (split_count c s.length s (Nat.le_refl _)).2

theorem pieces_join (c : UInt8) : ∀ (x : BS) (l : List BS), c ∉ x → (∀ y ∈ l, c ∉ y) → pieces c (Lib.join (x :: l) [c]) = x :: l
  | x, [], h, _ => by rw [Lib.join_one]; exact pieces_none c x h
  | x, y :: l, h, hl => by
    have e : Lib.join (x :: y :: l) [c] = x ++ c :: Lib.join (y :: l) [c] := by
      rw [Lib.join_cons, Lib.join_cons]
      simp [Lib.joinTail]
    rw [e, pieces_hit c _ x h, pieces_join c y l (hl y (by simp)) fun z hz => hl z (by simp [hz])]

/-! ### Numerals -/

theorem dig_ne (u : Nat) : Lib.decDigits u ≠ [] := by
  rw [Lib.decDigits]; split <;> simp

theorem dig_mem (u : Nat) : ∀ x ∈ Lib.decDigits u, 48 ≤ x.toNat ∧ x.toNat ≤ 57 := by
  induction u using Nat.strongRecOn with
  | _ u ih =>
    intro x hx
    rw [Lib.decDigits] at hx
    split at hx
    · rename_i h
      simp only [List.mem_singleton] at hx
      subst hx
      have : (UInt8.ofNat (48 + u)).toNat = 48 + u := by simp; omega
      omega
    · rename_i h
      rw [List.mem_append] at hx
      rcases hx with hx | hx
      · exact ih (u / 10) (by omega) x hx
      · simp only [List.mem_singleton] at hx
        subst hx
        have : (UInt8.ofNat (48 + u % 10)).toNat = 48 + u % 10 := by simp; omega
        omega

theorem parse_dig (u : Nat) : ∀ r : BS, u < 18446744073709551616 → Lib.parseUint10 0 (Lib.decDigits u ++ r) = Lib.parseUint10 u r := by
  induction u using Nat.strongRecOn with
  | _ u ih =>
    intro r hu
    rw [Lib.decDigits]
    split
    · rename_i h
      have e : (UInt8.ofNat (48 + u)).toNat = 48 + u := by simp; omega
      simp only [List.cons_append, List.nil_append, Lib.parseUint10]
      rw [e, if_pos (by omega), if_neg (by omega), if_neg (by omega)]
      congr 1; omega
    · rename_i h
      have e : (UInt8.ofNat (48 + u % 10)).toNat = 48 + u % 10 := by simp; omega
      rw [List.append_assoc, ih (u / 10) (by omega) _ (by omega)]
      simp only [List.cons_append, List.nil_append, Lib.parseUint10]
      rw [e, if_pos (by omega), if_neg (by omega), if_neg (by omega)]
      congr 1; omega

theorem parse_dig0 (u : Nat) (hu : u < 18446744073709551616) : Lib.parseUint10 0 (Lib.decDigits u) = .ok u := by
  have := parse_dig u [] hu
  rw [List.append_nil] at this
  rw [this]; rfl

theorem uint_dig (u : Nat) (hu : u < 18446744073709551616) : Lib.parseUintB 64 (Lib.decDigits u) = .ok u := by
  unfold Lib.parseUintB
  rw [if_neg (dig_ne u)]
  have := Lib.parseUintM_64 (Lib.decDigits u) 0
  rw [show (2 ^ 64 - 1 : Nat) = 18446744073709551615 from rfl, this, parse_dig0 u hu]

theorem atoi_itoa (n : Int) (h0 : -9223372036854775808 ≤ n) (h1 : n ≤ 9223372036854775807) : Lib.atoiAll (Lib.itoa n) = .ok n := by
  unfold Lib.itoa
  split
  · rename_i hn
    have hp : Lib.parseMag (Lib.decDigits n.natAbs) = .ok n.natAbs := by
      unfold Lib.parseMag
      rw [if_neg (dig_ne _), parse_dig0 _ (by omega)]
    have h45 : (45 : UInt8).toNat = 45 := rfl
    simp only [Lib.atoiAll, h45, if_true, or_true, hp]
    rw [if_neg (by simp), if_neg (by omega)]
    congr 1; omega
  · rename_i hn
    have hp : Lib.parseMag (Lib.decDigits n.toNat) = .ok n.toNat := by
      unfold Lib.parseMag
      rw [if_neg (dig_ne _), parse_dig0 _ (by omega)]
    cases hd : Lib.decDigits n.toNat with
    | nil => exact absurd hd (dig_ne _)
    | cons c r =>
      have hc := dig_mem n.toNat c (by rw [hd]; simp)
      rw [hd] at hp
      simp only [Lib.atoiAll]
      rw [if_neg (by omega), hp]
      simp only
      rw [if_neg (by omega), if_neg (by omega), if_neg (by omega)]
      congr 1; omega

theorem itoa_no (c : UInt8) (hc : c.toNat < 45 ∨ 57 < c.toNat) (n : Int) : c ∉ Lib.itoa n := by
  unfold Lib.itoa
  split
  · intro h
    rw [List.mem_cons] at h
    rcases h with rfl | h
    · have : (45 : UInt8).toNat = 45 := rfl
      omega
    · have := dig_mem _ c h; omega
  · intro h
    have := dig_mem _ c h; omega

theorem dig_no (c : UInt8) (hc : c.toNat < 45 ∨ 57 < c.toNat) (u : Nat) : c ∉ Lib.decDigits u := fun h => by
  have := dig_mem _ c h; omega

theorem dig_len (u : Nat) (h : u < 18446744073709551616) : (Lib.decDigits u).length ≤ 20 := by
  rw [Lib.decDigits_length]
  rcases Nat.eq_zero_or_pos u with rfl | h1
  · rw [Lib.nDigits_small (by omega)]; omega
  · have := Lib.numDigits_eq u h1 h
    split at this <;> omega

theorem itoa_len (n : Int) (h0 : -9223372036854775808 ≤ n) (h1 : n ≤ 9223372036854775807) : (Lib.itoa n).length ≤ 21 := by
  unfold Lib.itoa
  split
  · have := dig_len n.natAbs (by omega); simp; omega
  · have := dig_len n.toNat (by omega); omega

/-- The number that Atoi gives. -/
def atoiV (s : BS) : Int := match Lib.atoiAll s with | .ok v => v | .syntax => 0 | .range => Lib.atoiSat s
def atoiOk (s : BS) : Bool := match Lib.atoiAll s with | .ok _ => true | _ => false
def uintV (s : BS) : Nat := match Lib.parseUintB 64 s with | .ok v => v | .syntax => 0 | .range => 18446744073709551615
def uintOk (s : BS) : Bool := match Lib.parseUintB 64 s with | .ok _ => true | _ => false

theorem atoiAll_range {s : BS} {v : Int} (h : Lib.atoiAll s = .ok v) : -9223372036854775808 ≤ v ∧ v ≤ 9223372036854775807 := by
  unfold Lib.atoiAll at h
  split at h
  · cases h
  · simp only at h
    split at h
    · cases h
    · cases h
    · split at h
      · cases h
      · split at h
        · cases h
        · injection h with h
          subst h
          split <;> omega

theorem atoiV_range (s : BS) : -9223372036854775808 ≤ atoiV s ∧ atoiV s ≤ 9223372036854775807 := by
  unfold atoiV
  split
  · exact atoiAll_range (by assumption)
  · omega
  · unfold Lib.atoiSat; split <;> omega

theorem uintV_range (s : BS) : uintV s < 18446744073709551616 := by
  unfold uintV
  split
  · rename_i v h
    unfold Lib.parseUintB at h
    split at h
    · cases h
    · have := Lib.parseUintM_le _ _ _ _ (Nat.zero_le _) h
      have e : (2 ^ 64 - 1 : Nat) = 18446744073709551615 := rfl
      omega
  · omega
  · omega

theorem atoiV_itoa (n : Int) (h0 : -9223372036854775808 ≤ n) (h1 : n ≤ 9223372036854775807) : atoiV (Lib.itoa n) = n ∧ atoiOk (Lib.itoa n) = true := by
  unfold atoiV atoiOk
  rw [atoi_itoa n h0 h1]
  exact ⟨rfl, rfl⟩
theorem uintV_dig (u : Nat) (hu : u < 18446744073709551616) : uintV (Lib.decDigits u) = u ∧ uintOk (Lib.decDigits u) = true := by
  unfold uintV uintOk
  rw [uint_dig u hu]
  exact ⟨rfl, rfl⟩

/-! ### Steps -/

structure StepV where
  t : Int
  p : Int
  a : Int
  k : Int
  c : Int
  i : Int
  g : Nat
  u : Nat
  d : Bool
  deriving DecidableEq

def i64R (n : Int) : Prop := -9223372036854775808 ≤ n ∧ n ≤ 9223372036854775807

structure StepV.Ok (s : StepV) : Prop where
  t : i64R s.t
  p : i64R s.p
  a : i64R s.a
  k : i64R s.k
  c : i64R s.c
  i : i64R s.i
  g : s.g < 18446744073709551616
  u : s.u < 18446744073709551616

def StepV.idle (s : StepV) : Prop := s.k = 0 ∧ s.c = 0 ∧ s.i = 0 ∧ s.g = 0 ∧ s.u = 0 ∧ s.d = false
instance (s : StepV) : Decidable s.idle := by unfold StepV.idle; exact inferInstance

def doneW (b : Bool) : BS := if b then [49] else [48]
def headW (s : StepV) : List BS := [Lib.itoa s.t, Lib.itoa s.p, Lib.itoa s.a]
def tailW (s : StepV) : List BS := [Lib.itoa s.k, Lib.itoa s.c, Lib.itoa s.i, Lib.decDigits s.g, Lib.decDigits s.u, doneW s.d]
/-- The words of a step. -/
def stepW (s : StepV) : List BS := if s.idle then headW s else headW s ++ tailW s
/-- Its line. -/
def lineF (s : StepV) : BS := Lib.join (stepW s) [32]
/-- The text of steps. -/
def textF : List StepV → BS
  | [] => []
  | s :: l => lineF s ++ 10 :: textF l

theorem textF_app (l : List StepV) (s : StepV) : textF (l ++ [s]) = textF l ++ (lineF s ++ [10]) := by
  induction l with
  | nil => simp [textF]
  | cons x l ih => simp [textF, ih]

theorem doneW_no (c : UInt8) (hc : c.toNat < 45 ∨ 57 < c.toNat) (b : Bool) : c ∉ doneW b := by
  have h49 : (49 : UInt8).toNat = 49 := rfl
  have h48 : (48 : UInt8).toNat = 48 := rfl
  unfold doneW
  split <;> (simp only [List.mem_singleton]; rintro rfl; omega)

theorem stepW_no (c : UInt8) (hc : c.toNat < 45 ∨ 57 < c.toNat) (s : StepV) : ∀ y ∈ stepW s, c ∉ y := by
  intro y hy
  unfold stepW at hy
  split at hy
  · simp only [headW, List.mem_cons, List.not_mem_nil, or_false] at hy
    rcases hy with rfl | rfl | rfl <;> exact itoa_no c hc _
  · simp only [headW, tailW, List.mem_append, List.mem_cons, List.not_mem_nil, or_false] at hy
    rcases hy with (rfl | rfl | rfl) | (rfl | rfl | rfl | rfl | rfl | rfl) <;> first | exact itoa_no c hc _ | exact dig_no c hc _ | exact doneW_no c hc _

theorem stepW_cons (s : StepV) : stepW s = Lib.itoa s.t :: (stepW s).tail := by
  unfold stepW
  split <;> rfl

theorem words_line (s : StepV) : pieces 32 (lineF s) = stepW s := by
  have h := stepW_no 32 (by decide) s
  unfold lineF
  rw [stepW_cons] at h ⊢
  exact pieces_join 32 _ _ (h _ (by simp)) fun y hy => h y (by simp [hy])

theorem join_mem {c : UInt8} {sep : BS} (hs : c ∉ sep) : ∀ l : List BS, (∀ y ∈ l, c ∉ y) → c ∉ Lib.join l sep
  | [], _ => by simp [Lib.join_nil]
  | [x], h => by rw [Lib.join_one]; exact h x (by simp)
  | x :: y :: l, h => by
    have e : Lib.join (x :: y :: l) sep = x ++ (sep ++ Lib.join (y :: l) sep) := by
      rw [Lib.join_cons, Lib.join_cons]
      simp [Lib.joinTail]
    rw [e]
    simp only [List.mem_append, not_or]
    exact ⟨h x (by simp), hs, join_mem hs (y :: l) fun z hz => h z (by simp [hz])⟩

theorem line_no (s : StepV) : (10 : UInt8) ∉ lineF s := join_mem (by decide) _ (stepW_no 10 (by decide) s)

theorem join_le {sep : BS} {k : Nat} : ∀ l : List BS, (∀ y ∈ l, y.length ≤ k) → (Lib.join l sep).length ≤ l.length * (k + sep.length)
  | [], _ => by simp [Lib.join_nil]
  | [x], h => by rw [Lib.join_one]; have := h x (by simp); simp; omega
  | x :: y :: l, h => by
    have e : Lib.join (x :: y :: l) sep = x ++ (sep ++ Lib.join (y :: l) sep) := by
      rw [Lib.join_cons, Lib.join_cons]
      simp [Lib.joinTail]
    have h1 := h x (by simp)
    have h2 := join_le (sep := sep) (y :: l) fun z hz => h z (by simp [hz])
    rw [e]
    simp only [List.length_append, List.length_cons] at h2 ⊢
    rw [Nat.add_mul (l.length + 1) 1]
    omega

theorem stepW_len (s : StepV) (h : s.Ok) : ∀ y ∈ stepW s, y.length ≤ 21 := by
  intro y hy
  have hd : (doneW s.d).length ≤ 21 := by unfold doneW; split <;> simp
  have hg := dig_len s.g h.g
  have hu := dig_len s.u h.u
  unfold stepW at hy
  split at hy
  · simp only [headW, List.mem_cons, List.not_mem_nil, or_false] at hy
    rcases hy with rfl | rfl | rfl
    · exact itoa_len _ h.t.1 h.t.2
    · exact itoa_len _ h.p.1 h.p.2
    · exact itoa_len _ h.a.1 h.a.2
  · simp only [headW, tailW, List.mem_append, List.mem_cons, List.not_mem_nil, or_false] at hy
    rcases hy with (rfl | rfl | rfl) | (rfl | rfl | rfl | rfl | rfl | rfl)
    · exact itoa_len _ h.t.1 h.t.2
    · exact itoa_len _ h.p.1 h.p.2
    · exact itoa_len _ h.a.1 h.a.2
    · exact itoa_len _ h.k.1 h.k.2
    · exact itoa_len _ h.c.1 h.c.2
    · exact itoa_len _ h.i.1 h.i.2
    · omega
    · omega
    · exact hd

theorem stepW_length (s : StepV) : (stepW s).length = if s.idle then 3 else 9 := by
  unfold stepW
  split <;> rfl

theorem line_len (s : StepV) (h : s.Ok) : (lineF s).length ≤ 198 := by
  have h1 := join_le (sep := [32]) _ (stepW_len s h)
  have h2 : (stepW s).length ≤ 9 := by rw [stepW_length]; split <;> omega
  have h3 : (stepW s).length * (21 + 1) ≤ 9 * (21 + 1) := Nat.mul_le_mul_right _ h2
  simp only [List.length_singleton] at h1
  unfold lineF
  omega

theorem text_len : ∀ l : List StepV, (∀ s ∈ l, s.Ok) → (textF l).length ≤ l.length * 199
  | [], _ => by simp [textF]
  | s :: l, h => by
    have h1 := line_len s (h s (by simp))
    have h2 := text_len l fun x hx => h x (by simp [hx])
    simp only [textF, List.length_append, List.length_cons]
    omega

/-- The step that the words tell. -/
def stepOf (w : List BS) : StepV :=
  if w.length = 9 then ⟨atoiV (w.getD 0 []), atoiV (w.getD 1 []), atoiV (w.getD 2 []), atoiV (w.getD 3 []), atoiV (w.getD 4 []), atoiV (w.getD 5 []), uintV (w.getD 6 []), uintV (w.getD 7 []), decide (w.getD 8 [] = [49])⟩
  else ⟨atoiV (w.getD 0 []), atoiV (w.getD 1 []), atoiV (w.getD 2 []), 0, 0, 0, 0, 0, false⟩

/-- What is read of a line. -/
def readF (s : BS) : Option StepV :=
  if (pieces 32 s).length = 3 ∨ (pieces 32 s).length = 9 then
    if lineF (stepOf (pieces 32 s)) = s then some (stepOf (pieces 32 s)) else none
  else none

theorem stepOf_ok (w : List BS) : (stepOf w).Ok := by
  unfold stepOf
  split
  · exact ⟨atoiV_range _, atoiV_range _, atoiV_range _, atoiV_range _, atoiV_range _, atoiV_range _, uintV_range _, uintV_range _⟩
  · exact ⟨atoiV_range _, atoiV_range _, atoiV_range _, by unfold i64R; simp, by unfold i64R; simp, by unfold i64R; simp, by simp, by simp⟩

theorem readF_ok {s : BS} {x : StepV} (h : readF s = some x) : x.Ok := by
  unfold readF at h
  split at h
  · split at h
    · injection h with h; subst h; exact stepOf_ok _
    · cases h
  · cases h

theorem stepOf_W (x : StepV) (h : x.Ok) : stepOf (stepW x) = x := by
  have hd : decide (doneW x.d = [49]) = x.d := by unfold doneW; cases x.d <;> simp
  unfold stepOf
  rw [stepW_length]
  by_cases hi : x.idle
  · rw [if_pos hi, if_neg (by omega)]
    obtain ⟨h1, h2, h3, h4, h5, h6⟩ := id hi
    unfold stepW
    rw [if_pos hi]
    simp only [headW, List.getD_cons_zero, List.getD_cons_succ, (atoiV_itoa _ h.t.1 h.t.2).1, (atoiV_itoa _ h.p.1 h.p.2).1, (atoiV_itoa _ h.a.1 h.a.2).1]
    cases x
    simp_all
  · rw [if_neg hi, if_pos rfl]
    unfold stepW
    rw [if_neg hi]
    simp only [headW, tailW, List.cons_append, List.nil_append, List.getD_cons_zero, List.getD_cons_succ, (atoiV_itoa _ h.t.1 h.t.2).1, (atoiV_itoa _ h.p.1 h.p.2).1, (atoiV_itoa _ h.a.1 h.a.2).1, (atoiV_itoa _ h.k.1 h.k.2).1,
      (atoiV_itoa _ h.c.1 h.c.2).1, (atoiV_itoa _ h.i.1 h.i.2).1, (uintV_dig _ h.g).1, (uintV_dig _ h.u).1, hd]

theorem readF_line (x : StepV) (h : x.Ok) : readF (lineF x) = some x := by
  unfold readF
  rw [words_line, stepW_length, stepOf_W x h, if_pos (by split <;> simp), if_pos rfl]

/-- A line that is read well consists of words that are read well. -/
theorem readF_words {s : BS} {x : StepV} (h : readF s = some x) :
    (∀ j, j < min (pieces 32 s).length 6 → atoiOk ((pieces 32 s).getD j []) = true) ∧ ((pieces 32 s).length = 9 → uintOk ((pieces 32 s).getD 6 []) = true ∧ uintOk ((pieces 32 s).getD 7 []) = true) := by
  have hok := readF_ok h
  have hx : x = stepOf (pieces 32 s) ∧ lineF x = s := by
    unfold readF at h
    split at h
    · split at h
      · rename_i e; injection h with h; subst h; exact ⟨rfl, e⟩
      · cases h
    · cases h
  have e : pieces 32 s = stepW x := by rw [← hx.2, words_line]
  rw [e, stepW_length]
  unfold stepW
  by_cases hi : x.idle
  · rw [if_pos hi, if_pos hi]
    refine ⟨fun j hj => ?_, fun h9 => by omega⟩
    have : j = 0 ∨ j = 1 ∨ j = 2 := by omega
    rcases this with rfl | rfl | rfl
    · exact (atoiV_itoa _ hok.t.1 hok.t.2).2
    · exact (atoiV_itoa _ hok.p.1 hok.p.2).2
    · exact (atoiV_itoa _ hok.a.1 hok.a.2).2
  · rw [if_neg hi, if_neg hi]
    refine ⟨fun j hj => ?_, fun _ => ⟨(uintV_dig _ hok.g).2, (uintV_dig _ hok.u).2⟩⟩
    have : j = 0 ∨ j = 1 ∨ j = 2 ∨ j = 3 ∨ j = 4 ∨ j = 5 := by omega
    rcases this with rfl | rfl | rfl | rfl | rfl | rfl
    · exact (atoiV_itoa _ hok.t.1 hok.t.2).2
    · exact (atoiV_itoa _ hok.p.1 hok.p.2).2
    · exact (atoiV_itoa _ hok.a.1 hok.a.2).2
    · exact (atoiV_itoa _ hok.k.1 hok.k.2).2
    · exact (atoiV_itoa _ hok.c.1 hok.c.2).2
    · exact (atoiV_itoa _ hok.i.1 hok.i.2).2

/-! ### Texts of steps -/

/-- What is read of lines; 'e': the last one has its end. -/
def goL (e : Bool) : List BS → Nat → List StepV → List StepV × Nat × Nat
  | [], _, acc => (acc, 0, 0)
  | s :: r, n, acc => match readF s with
    | none => ([], n, 4)
    | some x => if r = [] ∧ e = false then ([], n, 4) else goL e r (n + 1) (acc ++ [x])

def endsNl (s : BS) : Bool := decide (s.getLast? = some 10)

/-- What is read of a text. -/
def parseF (s : BS) : List StepV × Nat × Nat := if 262144 < s.length then ([], 0, 3) else goL (endsNl s) (linesOf s) 1 []

theorem endsNl_hit (a r : BS) : endsNl (a ++ 10 :: r) = if r = [] then true else endsNl r := by
  unfold endsNl
  by_cases h : r = []
  · subst h; simp
  · rw [if_neg h, List.getLast?_append, List.getLast?_cons]
    cases hr : r.getLast? with
    | none => rw [List.getLast?_eq_none_iff] at hr; exact absurd hr h
    | some v => simp

theorem endsNl_none (a : BS) (h : (10 : UInt8) ∉ a) : endsNl a = false := by
  unfold endsNl
  rw [decide_eq_false_iff_not]
  intro e
  exact h (List.mem_of_getLast? e)

theorem lines_nil {s : BS} : linesOf s = [] ↔ s = [] := by
  cases s with
  | nil => simp [linesOf]
  | cons b r =>
    simp only [linesOf, reduceCtorEq, iff_false]
    split
    · simp
    · split <;> simp

theorem text_lines : ∀ l : List StepV, linesOf (textF l) = l.map lineF
  | [] => rfl
  | s :: l => by rw [textF, lines_hit _ _ (line_no s), text_lines l]; rfl

theorem text_nil {l : List StepV} : textF l = [] ↔ l = [] := by cases l <;> simp [textF]

theorem text_ends : ∀ l : List StepV, l ≠ [] → endsNl (textF l) = true
  | [], h => absurd rfl h
  | s :: l, _ => by
    rw [textF, endsNl_hit]
    split
    · rfl
    · rename_i h; exact text_ends l fun e => h (text_nil.2 e)

theorem goL_round : ∀ (l : List StepV) (n : Nat) (acc : List StepV), (∀ s ∈ l, s.Ok) → goL true (l.map lineF) n acc = (acc ++ l, 0, 0)
  | [], n, acc, _ => by simp [goL]
  | s :: l, n, acc, h => by
    simp only [List.map_cons, goL, readF_line s (h s (by simp))]
    rw [if_neg (by simp), goL_round l (n + 1) (acc ++ [s]) fun x hx => h x (by simp [hx])]
    simp

/-- Steps are recovered from their text. -/
theorem parse_text (l : List StepV) (h : ∀ s ∈ l, s.Ok) (hn : l.length ≤ 1000) : parseF (textF l) = (l, 0, 0) := by
  have h1 := text_len l h
  unfold parseF
  rw [if_neg (by omega), text_lines]
  by_cases e : l = []
  · subst e; rfl
  · rw [text_ends l e, goL_round l 1 [] h]; rfl

theorem goL_ok (e : Bool) : ∀ (ls : List BS) (n : Nat) (acc : List StepV), (∀ s ∈ acc, s.Ok) → ∀ s ∈ (goL e ls n acc).1, s.Ok
  | [], n, acc, h => h
  | x :: r, n, acc, h => by
    simp only [goL]
    split
    · simp
    · rename_i y hy
      split
      · simp
      · exact goL_ok e r (n + 1) (acc ++ [y]) fun s hs => by
          simp only [List.mem_append, List.mem_singleton] at hs
          rcases hs with hs | rfl
          · exact h s hs
          · exact readF_ok hy

end Go.Stx
