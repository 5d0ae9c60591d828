/-
  Struct and array values compared, in the abstract memory.
-/
import Derived.Test.YtajhaafmlnoioaaStxOps2
import Derived.ChangeKeysEq
import Derived.Laws.StructEq
import Derived.Laws.Cover3
namespace Go.Stx
open Go

def aeqFields (P : Program) (eq : TypeId → Value → Value → Option Bool) (xs ys : Array Value) : List Field → Option Bool
  | [] => some true
  | f :: r =>
    if f.name = "_" then aeqFields P eq xs ys r else
    match apart P f.type xs f.offset, apart P f.type ys f.offset with
    | some a, some b =>
      match eq f.type a b, aeqFields P eq xs ys r with
      | some p, some q => some (p && q)
      | _, _ => none
    | _, _ => none

def aeqElems (P : Program) (eq : Value → Value → Option Bool) (e : TypeId) (size : Nat) (xs ys : Array Value) : List Nat → Option Bool
  | [] => some true
  | i :: r =>
    match apart P e xs (i * size), apart P e ys (i * size) with
    | some a, some b =>
      match eq a b, aeqElems P eq e size xs ys r with
      | some p, some q => some (p && q)
      | _, _ => none
    | _, _ => none

def aequal (P : Program) : Nat → TypeId → Value → Value → Option Bool
  | 0, _, _, _ => none
  | d + 1, t, x, y =>
    match P.underlying t, x, y with
    | some .bool, .bool a, .bool b => some (a == b)
    | some (.int _), .int k a, .int k' b => if k = k' then some (decide (a = b)) else none
    | some .string, .string a, .string b => some (a.toList == b.toList)
    | some (.struct fs), .agg xs, .agg ys => if P.stoodInHeld t then none else aeqFields P (aequal P d) xs ys fs.toList
    | some (.array n e), .agg xs, .agg ys =>
      match P.info? e with
      | some i => aeqElems P (aequal P d e) e i.size xs ys (List.range n)
      | none => none
    | _, _, _ => none

theorem eqFields_sound {P : Program} {m : Mp} {n d : Nat} (ih : ∀ (t : TypeId) (x y x' y' : Value) (r : Bool), aequal P n t x y = some r → VRel m x x' → VRel m y y' → ∀ w, (Op.equalIn d t x' y').run P w = .ok r w)
    {xs ys xs' ys' : Array Value} (hx : VRel m (.agg xs) (.agg xs')) (hy : VRel m (.agg ys) (.agg ys')) (w : World) : ∀ (fs : List Field) (r : Bool), aeqFields P (aequal P n) xs ys fs = some r →
    (Op.eqFields d xs' ys' fs).run P w = .ok r w
  | [], r, h => by injection h with h; subst h; rfl
  | f :: fs, r, h => by
    unfold aeqFields at h
    split at h
    · rename_i hn
      simp only [Op.eqFields, hn, ne_eq, not_true_eq_false, if_false]
      exact eqFields_sound ih hx hy w fs r h
    · rename_i hn
      split at h <;> try (cases h; done)
      rename_i a b ha hb
      split at h <;> try (cases h; done)
      rename_i p q hp hq
      injection h with h
      subst h
      obtain ⟨a', h1, h2⟩ := apart_sound (P := P) ha hx
      obtain ⟨b', h3, h4⟩ := apart_sound (P := P) hb hy
      have h5 := ih _ _ _ _ _ _ hp h1 h3 w
      have h6 := eqFields_sound ih hx hy w fs q hq
      simp only [Op.eqFields, ne_eq, hn, not_false_eq_true, if_true, Sem.run_bind, h2, h4, h5, Result.andThen_ok]
      cases p
      · rfl
      · simp only [Bool.not_true, Bool.false_eq_true, if_false, h6, Bool.true_and]

theorem eqElems_sound {P : Program} {m : Mp} {d size : Nat} {e : TypeId} {eq : Value → Value → Option Bool}
    (ih : ∀ (x y x' y' : Value) (r : Bool), eq x y = some r → VRel m x x' → VRel m y y' → ∀ w, (Op.equalIn d e x' y').run P w = .ok r w)
    {xs ys xs' ys' : Array Value} (hx : VRel m (.agg xs) (.agg xs')) (hy : VRel m (.agg ys) (.agg ys')) (w : World) : ∀ (is : List Nat) (r : Bool), aeqElems P eq e size xs ys is = some r →
    (Op.eqItems d e size xs' ys' is).run P w = .ok r w
  | [], r, h => by injection h with h; subst h; simp [Op.eqItems]
  | i :: is, r, h => by
    unfold aeqElems at h
    split at h <;> try (cases h; done)
    rename_i a b ha hb
    split at h <;> try (cases h; done)
    rename_i p q hp hq
    injection h with h
    subst h
    obtain ⟨a', h1, h2⟩ := apart_sound (P := P) ha hx
    obtain ⟨b', h3, h4⟩ := apart_sound (P := P) hb hy
    have h5 := ih _ _ _ _ _ hp h1 h3 w
    have h6 := eqElems_sound ih hx hy w is q hq
    simp only [Op.eqItems, Sem.run_bind, h2, h4, h5, Result.andThen_ok]
    cases p
    · simp
    · simp [h6]

theorem aequal_sound {P : Program} {m : Mp} : ∀ (n d : Nat) (t : TypeId) (x y x' y' : Value) (r : Bool), n ≤ d → aequal P n t x y = some r → VRel m x x' → VRel m y y' →
    ∀ w, (Op.equalIn d t x' y').run P w = .ok r w
  | 0, d, t, x, y, x', y', r, _, h, _, _, w => by cases h
  | n + 1, 0, t, x, y, x', y', r, hd, h, hx, hy, w => by omega
  | n + 1, d + 1, t, x, y, x', y', r, hd, h, hx, hy, w => by
    unfold aequal at h
    split at h <;> try (cases h; done)
    · rename_i hu
      cases hx; cases hy
      injection h with h
      subst h
      simp [Op.equalIn, run_underlying hu]
    · rename_i hu
      cases hx; cases hy
      split at h <;> try (cases h; done)
      rename_i hk
      injection h with h
      subst h; subst hk
      simp [Op.equalIn, run_underlying hu]
      rfl
    · rename_i hu
      cases hx; cases hy
      injection h with h
      subst h
      exact run_equalIn_string w d t _ _ hu
    · rename_i fs xs ys hu
      split at h <;> try (cases h; done)
      rename_i hp
      have hx0 := hx
      have hy0 := hy
      cases hx; cases hy
      have hfo : P.fieldsOf t = fs := by simp [Program.fieldsOf, hu]
      rw [run_equalIn_struct w d t _ _ (by rw [hfo]; exact hu) (by simpa using hp), hfo]
      exact eqFields_sound (fun t x y x' y' r h1 h2 h3 w => aequal_sound n d t x y x' y' r (by omega) h1 h2 h3 w) hx0 hy0 w _ _ h
    · rename_i k e xs ys hu
      split at h <;> try (cases h; done)
      rename_i i hi
      have hx0 := hx
      have hy0 := hy
      cases hx; cases hy
      rw [run_equalIn_array w d _ _ hu hi]
      have hce : P.cellsOf e = i.size := by simp [Program.cellsOf, hi]
      rw [hce]
      exact eqElems_sound (fun x y x' y' r h1 h2 h3 w => aequal_sound n d e x y x' y' r (by omega) h1 h2 h3 w) hx0 hy0 w _ _ h

theorem run_equalIn_fn_nil {P : Program} {t : TypeId} {x y : Array TypeId} {b : Bool} (d : Nat) (fn : Fn) (p q : Array Value) (hu : P.underlying t = some (.func x y b)) (w : World) :
    (Op.equalIn (d + 1) t (.func fn p q) .nilFunc).run P w = .ok false w := by
  simp [Op.equalIn, run_underlying hu]
theorem run_equalIn_nil_nil {P : Program} {t : TypeId} {x y : Array TypeId} {b : Bool} (d : Nat) (hu : P.underlying t = some (.func x y b)) (w : World) :
    (Op.equalIn (d + 1) t .nilFunc .nilFunc).run P w = .ok true w := by
  simp [Op.equalIn, run_underlying hu]

/-- Two operands, as 'abin', or two struct or array values compared. -/
def abin2 (P : Program) (op : BinOp) (t : TypeId) (x y : Value) : Option Value :=
  match x, y with
  | .agg xs, .agg ys =>
    if P.eqGuardType P.depth t then none else
    match op with
    | .eql => (aequal P 8 t (.agg xs) (.agg ys)).map .bool
    | .neq => (aequal P 8 t (.agg xs) (.agg ys)).map fun b => .bool (!b)
    | _ => none
  | .slice a _ _, .slice none 0 0 =>
    match op, P.underlying t with
    | .eql, some (.slice _) => some (.bool a.isNone)
    | .neq, some (.slice _) => some (.bool (!a.isNone))
    | _, _ => none
  | .map a, .map none =>
    match op, P.underlying t with
    | .eql, some (.map _ _) => some (.bool a.isNone)
    | .neq, some (.map _ _) => some (.bool (!a.isNone))
    | _, _ => none
  | .func _ _ _, .nilFunc =>
    match op, P.underlying t with
    | .eql, some (.func _ _ _) => some (.bool false)
    | .neq, some (.func _ _ _) => some (.bool true)
    | _, _ => none
  | .nilFunc, .nilFunc =>
    match op, P.underlying t with
    | .eql, some (.func _ _ _) => some (.bool true)
    | .neq, some (.func _ _ _) => some (.bool false)
    | _, _ => none
  | x, y => abin P op t x y

theorem abin2_sound {P : Program} {op : BinOp} {t : TypeId} {x y v : Value} (h : abin2 P op t x y = some v) {m : Mp} {x' y' : Value} (hx : VRel m x x') (hy : VRel m y y') (xo yo : Operand) (w : World) :
    (do eqGuard op t xo yo x' y'; binOp op t x' y' : Sem Value).run P w = .ok v w ∧ VRel m v v := by
  unfold abin2 at h
  split at h
  · rename_i xs ys
    split at h <;> try (cases h; done)
    rename_i hg
    have hx0 := hx
    have hy0 := hy
    cases hx; cases hy
    have hg' : P.eqGuardType P.depth t = false := by simpa using hg
    rw [Sem.run_bind, run_eqGuard_agg w op t xo yo _ _ hg', Result.andThen_ok]
    cases op <;> simp only at h <;> (try (cases h; done))
    · obtain ⟨r, h1, rfl⟩ := Option.map_eq_some_iff.1 h
      exact ⟨by rw [run_eql_struct, aequal_sound 8 10000 t _ _ _ _ r (by omega) h1 hx0 hy0 w]; rfl, by constructor⟩
    · obtain ⟨r, h1, rfl⟩ := Option.map_eq_some_iff.1 h
      exact ⟨by rw [run_neq_struct, aequal_sound 8 10000 t _ _ _ _ r (by omega) h1 hx0 hy0 w]; rfl, by constructor⟩
  · rename_i a n c
    have key : ∀ (a' : Option Addr) (n' c' : Nat) (e : TypeId), P.underlying t = some (.slice e) → (Op.equal t (.slice a' n' c') (.slice none 0 0)).run P w = .ok a'.isNone w := fun a' n' c' e hu => run_equal_slice_nil w t e a' n' c' hu
    have hx' : ∃ a' n' c', x' = .slice a' n' c' ∧ a'.isNone = a.isNone := by
      cases hx <;> exact ⟨_, _, _, rfl, rfl⟩
    obtain ⟨a', n', c', rfl, ha⟩ := hx'
    cases hy
    split at h
    · rename_i hu; injection h with h; subst h; exact ⟨by simp [eqGuard, binOp, key _ _ _ _ hu, ha], by constructor⟩
    · rename_i hu; injection h with h; subst h; exact ⟨by simp [eqGuard, binOp, key _ _ _ _ hu, ha], by constructor⟩
    · cases h
  · rename_i a
    have key : ∀ (a' : Option Nat) (k e : TypeId), P.underlying t = some (.map k e) → (Op.equal t (.map a') (.map none)).run P w = .ok a'.isNone w := fun a' k e hu => run_equal_map_nil w t k e a' hu
    have hx' : ∃ a', x' = .map a' ∧ a'.isNone = a.isNone := by
      cases hx <;> exact ⟨_, rfl, rfl⟩
    obtain ⟨a', rfl, ha⟩ := hx'
    cases hy
    split at h
    · rename_i hu; injection h with h; subst h; exact ⟨by simp [eqGuard, binOp, key _ _ _ hu, ha], by constructor⟩
    · rename_i hu; injection h with h; subst h; exact ⟨by simp [eqGuard, binOp, key _ _ _ hu, ha], by constructor⟩
    · cases h
  · cases hy
    cases hx
    split at h
    · rename_i hu; injection h with h; subst h; exact ⟨by simp [eqGuard, binOp, run_eql_of (run_equalIn_fn_nil _ _ _ _ hu w)], by constructor⟩
    · rename_i hu; injection h with h; subst h; exact ⟨by simp [eqGuard, binOp, run_eql_of (run_equalIn_fn_nil _ _ _ _ hu w)], by constructor⟩
    · cases h
  · cases hy
    cases hx
    split at h
    · rename_i hu; injection h with h; subst h; exact ⟨by simp [eqGuard, binOp, run_eql_of (run_equalIn_nil_nil _ hu w)], by constructor⟩
    · rename_i hu; injection h with h; subst h; exact ⟨by simp [eqGuard, binOp, run_eql_of (run_equalIn_nil_nil _ hu w)], by constructor⟩
    · cases h
  · exact abin_sound h hx hy xo yo w

end Go.Stx
