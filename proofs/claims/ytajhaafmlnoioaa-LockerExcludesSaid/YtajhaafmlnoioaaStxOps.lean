/-
  Single operations in the abstract memory, and that the model does the same.
-/
import Derived.Test.YtajhaafmlnoioaaStxApp
namespace Go.Stx
open Go

/-! ### Integers -/

def aint (op : BinOp) (k : IntKind) (x y : Int) : Option Value :=
  match op with
  | .add => some (.int k (k.wrap (x + y)))
  | .sub => some (.int k (k.wrap (x - y)))
  | .mul => some (.int k (k.wrap (x * y)))
  | .quo => if y = 0 then none else some (.int k (k.wrap (x.tdiv y)))
  | .rem => if y = 0 then none else some (.int k (x.tmod y))
  | .eql => some (.bool (decide (x = y)))
  | .neq => some (.bool (!decide (x = y)))
  | .lss => some (.bool (decide (x < y)))
  | .leq => some (.bool (decide (x ≤ y)))
  | .gtr => some (.bool (decide (y < x)))
  | .geq => some (.bool (decide (y ≤ x)))
  | .and => some (.int k (k.wrap (BitVec.ofInt k.bits x &&& BitVec.ofInt k.bits y).toNat))
  | .or => some (.int k (k.wrap (BitVec.ofInt k.bits x ||| BitVec.ofInt k.bits y).toNat))
  | .xor => some (.int k (k.wrap (BitVec.ofInt k.bits x ^^^ BitVec.ofInt k.bits y).toNat))
  | .andNot => some (.int k (k.wrap (BitVec.ofInt k.bits x &&& ~~~BitVec.ofInt k.bits y).toNat))
  | _ => none

def ashift (op : BinOp) (k : IntKind) (x y : Int) : Option Value :=
  if y < 0 then none else
  match op with
  | .shl => some (.int k (k.wrap (x * 2 ^ (min y.toNat k.bits))))
  | .shr => some (.int k (x.fdiv (2 ^ (min y.toNat k.bits))))
  | _ => none

def isShift : BinOp → Bool
  | .shl | .shr => true
  | _ => false

def abin (P : Program) (op : BinOp) (t : TypeId) (x y : Value) : Option Value :=
  match x, y with
  | .int k a, .int k' b => if isShift op then ashift op k a b else if k = k' then aint op k a b else none
  | .string a, .string b =>
    match op with
    | .eql => some (.bool (a.toList == b.toList))
    | .neq => some (.bool (!(a.toList == b.toList)))
    | _ => none
  | .bool a, .bool b =>
    match op, P.underlying t with
    | .eql, some .bool => some (.bool (a == b))
    | .neq, some .bool => some (.bool (!(a == b)))
    | _, _ => none
  | .pointer a, .pointer b =>
    if a.isSome && b.isSome then none else
    match op, P.underlying t with
    | .eql, some (.pointer _) => some (.bool (a.isNone && b.isNone))
    | .neq, some (.pointer _) => some (.bool (!(a.isNone && b.isNone)))
    | _, _ => none
  | _, _ => none

theorem run_aint {P : Program} {op : BinOp} {k : IntKind} {a b : Int} {t : TypeId} {v : Value} (h0 : isShift op = false) (h : aint op k a b = some v) (w : World) :
    (binOp op t (.int k a) (.int k b)).run P w = .ok v w := by
  cases op
  case add => injection h with h; subst h; simp [binOp, Op.intArith]
  case sub => injection h with h; subst h; simp [binOp, Op.intArith]
  case mul => injection h with h; subst h; simp [binOp, Op.intArith]
  case quo =>
    by_cases hb : b = 0
    · simp [aint, hb] at h
    · simp [aint, hb] at h; subst h; simp [binOp, Op.intDiv, hb]
  case rem =>
    by_cases hb : b = 0
    · simp [aint, hb] at h
    · simp [aint, hb] at h; subst h; simp [binOp, Op.intDiv, hb]
  case and => injection h with h; subst h; simp [binOp, Op.intBits]
  case or => injection h with h; subst h; simp [binOp, Op.intBits]
  case xor => injection h with h; subst h; simp [binOp, Op.intBits]
  case andNot => injection h with h; subst h; simp [binOp, Op.intBits]
  case shl => cases h0
  case shr => cases h0
  case eql => injection h with h; subst h; simp [binOp, Op.intCmp]; rfl
  case neq => injection h with h; subst h; simp [binOp, Op.intCmp]; rfl
  case lss => injection h with h; subst h; simp [binOp, Op.intCmp]
  case leq => injection h with h; subst h; simp [binOp, Op.intCmp]
  case gtr => injection h with h; subst h; simp [binOp, Op.intCmp]
  case geq => injection h with h; subst h; simp [binOp, Op.intCmp]

theorem run_ashift {P : Program} {op : BinOp} {k k' : IntKind} {a b : Int} {t : TypeId} {v : Value} (h : ashift op k a b = some v) (w : World) :
    (binOp op t (.int k a) (.int k' b)).run P w = .ok v w := by
  by_cases hb : b < 0
  · simp [ashift, hb] at h
  · cases op
    case shl => simp [ashift, hb] at h; subst h; simp [binOp, Op.shift, hb]
    case shr => simp [ashift, hb] at h; subst h; simp [binOp, Op.shift, hb]
    all_goals simp [ashift] at h

theorem aint_scalar {op : BinOp} {k : IntKind} {a b : Int} {v : Value} (h : aint op k a b = some v) (m : Mp) : VRel m v v := by
  cases op
  case quo =>
    by_cases hb : b = 0
    · simp [aint, hb] at h
    · simp [aint, hb] at h; subst h; constructor
  case rem =>
    by_cases hb : b = 0
    · simp [aint, hb] at h
    · simp [aint, hb] at h; subst h; constructor
  case shl => cases h
  case shr => cases h
  all_goals (injection h with h; subst h; constructor)

theorem ashift_scalar {op : BinOp} {k : IntKind} {a b : Int} {v : Value} (h : ashift op k a b = some v) (m : Mp) : VRel m v v := by
  by_cases hb : b < 0
  · simp [ashift, hb] at h
  · cases op
    case shl => simp [ashift, hb] at h; subst h; constructor
    case shr => simp [ashift, hb] at h; subst h; constructor
    all_goals simp [ashift] at h

theorem run_equalIn_bool {P : Program} {t : TypeId} (d : Nat) (a b : Bool) (hu : P.underlying t = some .bool) (w : World) :
    (Op.equalIn (d + 1) t (.bool a) (.bool b)).run P w = .ok (a == b) w := by
  simp [Op.equalIn, run_underlying hu]
theorem run_equalIn_ptr_nil {P : Program} {t e : TypeId} (d : Nat) (b : Option Addr) (hu : P.underlying t = some (.pointer e)) (w : World) :
    (Op.equalIn (d + 1) t (.pointer none) (.pointer b)).run P w = .ok b.isNone w := by
  simp [Op.equalIn, run_underlying hu]
theorem run_equalIn_nil_ptr {P : Program} {t e : TypeId} (d : Nat) (a : Addr) (hu : P.underlying t = some (.pointer e)) (w : World) :
    (Op.equalIn (d + 1) t (.pointer (some a)) (.pointer none)).run P w = .ok false w := by
  simp [Op.equalIn, run_underlying hu]
theorem run_eql_of {P : Program} {t : TypeId} {x y : Value} {r : Bool} {w : World} (h : (Op.equalIn (9999 + 1) t x y).run P w = .ok r w) : (Op.equal t x y).run P w = .ok r w := h

theorem run_eqGuard_int {P : Program} (op : BinOp) (t : TypeId) (xo yo : Operand) (k k' : IntKind) (a b : Int) (w : World) :
    (eqGuard op t xo yo (.int k a) (.int k' b)).run P w = .ok () w := by
  cases op <;> simp [eqGuard]

theorem abin_sound {P : Program} {op : BinOp} {t : TypeId} {x y v : Value} (h : abin P op t x y = some v) {m : Mp} {x' y' : Value} (hx : VRel m x x') (hy : VRel m y y') (xo yo : Operand) (w : World) :
    (do eqGuard op t xo yo x' y'; binOp op t x' y' : Sem Value).run P w = .ok v w ∧ VRel m v v := by
  unfold abin at h
  split at h
  · -- integers
    cases hx; cases hy
    rw [Sem.run_bind, run_eqGuard_int, Result.andThen_ok]
    split at h
    · exact ⟨run_ashift h w, ashift_scalar h m⟩
    · rename_i hs
      split at h
      · rename_i hk
        subst hk
        exact ⟨run_aint (by simpa using hs) h w, aint_scalar h m⟩
      · cases h
  · -- strings
    cases hx; cases hy
    cases op
    case eql => injection h with h; subst h; exact ⟨by simp [eqGuard, binOp, Op.stringOp], by constructor⟩
    case neq => injection h with h; subst h; exact ⟨by simp [eqGuard, binOp, Op.stringOp], by constructor⟩
    all_goals cases h
  · -- truth values
    cases hx; cases hy
    split at h
    · rename_i hu; injection h with h; subst h; exact ⟨by simp [eqGuard, binOp, run_eql_of (run_equalIn_bool _ _ _ hu w)], by constructor⟩
    · rename_i hu; injection h with h; subst h; exact ⟨by simp [eqGuard, binOp, run_eql_of (run_equalIn_bool _ _ _ hu w)], by constructor⟩
    · cases h
  · -- pointers
    rename_i a b
    cases a with
    | none =>
      cases hx
      cases b with
      | none =>
        cases hy
        simp only [Option.isSome_none, Bool.false_eq_true, if_false, Bool.and_self] at h
        split at h
        · rename_i hu; injection h with h; subst h; exact ⟨by simp [eqGuard, binOp, run_eql_of (run_equalIn_ptr_nil _ _ hu w)], by constructor⟩
        · rename_i hu; injection h with h; subst h; exact ⟨by simp [eqGuard, binOp, run_eql_of (run_equalIn_ptr_nil _ _ hu w)], by constructor⟩
        · cases h
      | some b =>
        cases hy
        simp only [Option.isSome_none, Bool.false_and, Bool.false_eq_true, if_false] at h
        split at h
        · rename_i hu; injection h with h; subst h; exact ⟨by simp [eqGuard, binOp, run_eql_of (run_equalIn_ptr_nil _ _ hu w)], by constructor⟩
        · rename_i hu; injection h with h; subst h; exact ⟨by simp [eqGuard, binOp, run_eql_of (run_equalIn_ptr_nil _ _ hu w)], by constructor⟩
        · cases h
    | some a =>
      cases b with
      | some b => simp at h
      | none =>
        cases hx
        cases hy
        simp only [Option.isSome_none, Bool.and_false, Bool.false_eq_true, if_false] at h
        split at h
        · rename_i hu; injection h with h; subst h; exact ⟨by simp [eqGuard, binOp, run_eql_of (run_equalIn_nil_ptr _ _ hu w)], by constructor⟩
        · rename_i hu; injection h with h; subst h; exact ⟨by simp [eqGuard, binOp, run_eql_of (run_equalIn_nil_ptr _ _ hu w)], by constructor⟩
        · cases h
  · cases h

def aun (op : UnOp) (x : Value) : Option Value :=
  match op, x with
  | .not, .bool b => some (.bool !b)
  | .neg, .int k n => some (.int k (k.wrap (0 - n)))
  | .xor, .int k n => some (.int k (k.wrap (BitVec.ofInt k.bits (if k.signed then -1 else k.max) ^^^ BitVec.ofInt k.bits n).toNat))
  | _, _ => none

theorem aun_sound {P : Program} {op : UnOp} {x v : Value} (h : aun op x = some v) {m : Mp} {x' : Value} (hx : VRel m x x') (w : World) :
    (Op.unary op x').run P w = .ok v w ∧ VRel m v v := by
  unfold aun at h
  split at h
  · injection h with h; subst h; cases hx; exact ⟨by simp [Op.unary], by constructor⟩
  · injection h with h; subst h; cases hx; exact ⟨by simp [Op.unary, Op.intArith], by constructor⟩
  · injection h with h; subst h; cases hx; exact ⟨by simp [Op.unary, Op.intBits], by constructor⟩
  · cases h

def aconv (P : Program) (src dst : TypeId) (x : Value) : Option Value :=
  match P.underlying src, P.underlying dst, x with
  | some _, some (.int k), .int _ n => some (.int k (k.wrap n))
  | some _, some .string, .string s => some (.string s)
  | _, _, _ => none

theorem aconv_sound {P : Program} {src dst : TypeId} {x v : Value} (h : aconv P src dst x = some v) {m : Mp} {x' : Value} (hx : VRel m x x') (w : World) :
    (convert src dst x').run P w = .ok v w ∧ VRel m v v := by
  unfold aconv at h
  split at h
  · rename_i h1 h2; injection h with h; subst h; cases hx; exact ⟨by simp [convert, run_underlying h1, run_underlying h2, Conv.intToInt], by constructor⟩
  · rename_i h1 h2; injection h with h; subst h; cases hx; exact ⟨by simp [convert, run_underlying h1, run_underlying h2], by constructor⟩
  · cases h

end Go.Stx
