/-
  A machine that runs code over the abstract memory, inside the kernel: for calls without arguments that are open (the sanity checks).
-/
import Derived.Test.YtcffnkgjmneaeaaGreatDoorCoreB
namespace Go.Stx
open Go
variable [Gl]
set_option linter.unusedSectionVars false
set_option linter.unusedVariables false
set_option linter.unusedSimpArgs false
noncomputable section

/-! ### Tables by number -/

inductive Tr (α : Type) where
  | nil
  | node (l : Tr α) (v : Option α) (r : Tr α)

noncomputable def Tr.get {α : Type} (t : Tr α) : Nat → Option α :=
  Tr.rec (motive := fun _ => Nat → Option α) (fun _ => none) (fun _ v _ gl gr k => Bool.rec (motive := fun _ => Option α) (Bool.rec (motive := fun _ => Option α) (gr (Nat.div k 2)) (gl (Nat.div k 2)) (Nat.beq (Nat.mod k 2) 0)) v (Nat.beq k 1)) t
theorem Tr.get_node {α : Type} (l : Tr α) (v : Option α) (r : Tr α) (k : Nat) : (Tr.node l v r).get k = match Nat.beq k 1 with
    | true => v
    | false => match Nat.beq (k % 2) 0 with
      | true => l.get (k / 2)
      | false => r.get (k / 2) := by
  show Bool.rec (motive := fun _ => Option α) (Bool.rec (motive := fun _ => Option α) (r.get (k / 2)) (l.get (k / 2)) (Nat.beq (k % 2) 0)) v (Nat.beq k 1) = _
  cases Nat.beq k 1 <;> cases Nat.beq (k % 2) 0 <;> rfl
theorem Tr.get_nil {α : Type} (k : Nat) : (Tr.nil : Tr α).get k = none := rfl

/-- A tree that bears one place alone. -/
def Tr.one {α : Type} (o : Option α) (d : Nat) : Nat → Tr α :=
  Nat.rec (motive := fun _ => Nat → Tr α) (fun _ => .nil) (fun _ ih k =>
    Bool.rec (motive := fun _ => Tr α)
      (Tr.rec (motive := fun _ => Tr α) (.node .nil none .nil) (fun a b c _ _ => Bool.rec (motive := fun _ => Tr α) (.node .nil none (.node a b c)) (.node (.node a b c) none .nil) (Nat.beq (Nat.mod k 2) 0)) (ih (Nat.div k 2)))
      (.node .nil o .nil) (Nat.beq k 1)) d

/-- v at k; what is made is made at once. -/
def Tr.put {α : Type} (d : Nat) (t : Tr α) (k : Nat) (o : Option α) : Tr α :=
  Tr.rec (motive := fun _ => Nat → Tr α) (fun k => Tr.one o d k)
    (fun l v r pl pr k => Bool.rec (motive := fun _ => Tr α)
      (Bool.rec (motive := fun _ => Tr α)
        (Tr.rec (motive := fun _ => Tr α) (.node l v .nil) (fun a b c _ _ => .node l v (.node a b c)) (pr (Nat.div k 2)))
        (Tr.rec (motive := fun _ => Tr α) (.node .nil v r) (fun a b c _ _ => .node (.node a b c) v r) (pl (Nat.div k 2)))
        (Nat.beq (Nat.mod k 2) 0))
      (.node l o r) (Nat.beq k 1)) t k

theorem beq_yes {a b : Nat} (h : a = b) : Nat.beq a b = true := by subst h; exact Nat.beq_refl a
theorem beq_no {a b : Nat} (h : ¬ a = b) : Nat.beq a b = false := by
  cases e : Nat.beq a b with
  | false => rfl
  | true => exact absurd (Nat.eq_of_beq_eq_true e) h
theorem tr_id {α : Type} (l : Tr α) (f : Tr α → Tr α) : Tr.rec (motive := fun _ => Tr α) (f .nil) (fun a b c _ _ => f (.node a b c)) l = f l := by cases l <;> rfl
theorem Tr.one_get {α : Type} (o : Option α) : ∀ (d k j : Nat), 1 ≤ k → k < 2 ^ d → 1 ≤ j → (Tr.one o d k).get j = if j = k then o else none
  | 0, k, j, h1, h2, _ => by simp at h2; omega
  | d + 1, k, j, h1, h2, h3 => by
    show (Bool.rec (motive := fun _ => Tr α)
      (Tr.rec (motive := fun _ => Tr α) (.node .nil none .nil) (fun a b c _ _ => Bool.rec (motive := fun _ => Tr α) (.node .nil none (.node a b c)) (.node (.node a b c) none .nil) (Nat.beq (k % 2) 0)) (Tr.one o d (k / 2)))
      (.node .nil o .nil) (Nat.beq k 1) : Tr α).get j = _
    by_cases hk : k = 1
    · subst hk
      show (Tr.node .nil o .nil).get j = _
      rw [Tr.get_node]
      by_cases hj : j = 1
      · subst hj; simp
      · rw [beq_no hj, if_neg hj]
        cases Nat.beq (j % 2) 0 <;> rfl
    · rw [beq_no hk]
      have ih := fun i (hi : 1 ≤ i) => Tr.one_get o d (k / 2) i (by omega) (by rw [Nat.pow_succ] at h2; omega) hi
      by_cases hp : k % 2 = 0
      · rw [beq_yes hp]
        have e3 : (Tr.rec (motive := fun _ => Tr α) (.node .nil none .nil) (fun a b c _ _ => .node (.node a b c) none .nil) (Tr.one o d (k / 2)) : Tr α) = .node (Tr.one o d (k / 2)) none .nil := tr_id _ fun x => .node x none .nil
        show (Tr.rec (motive := fun _ => Tr α) (.node .nil none .nil) (fun a b c _ _ => .node (.node a b c) none .nil) (Tr.one o d (k / 2)) : Tr α).get j = _
        rw [e3, Tr.get_node]
        by_cases hj : j = 1
        · subst hj
          rw [if_neg (show ¬ 1 = k by omega)] <;> rfl
        · rw [beq_no hj]
          by_cases hjp : j % 2 = 0
          · rw [beq_yes hjp]
            show (Tr.one o d (k / 2)).get (j / 2) = _
            rw [ih (j / 2) (by omega)]
            by_cases hjk : j = k
            · subst hjk; rw [if_pos rfl, if_pos rfl]
            · rw [if_neg hjk, if_neg (show ¬ j / 2 = k / 2 by omega)]
          · rw [beq_no hjp, if_neg (show ¬ j = k by omega)] <;> rfl
      · rw [beq_no hp]
        have e3 : (Tr.rec (motive := fun _ => Tr α) (.node .nil none .nil) (fun a b c _ _ => .node .nil none (.node a b c)) (Tr.one o d (k / 2)) : Tr α) = .node .nil none (Tr.one o d (k / 2)) := tr_id _ fun x => .node .nil none x
        show (Tr.rec (motive := fun _ => Tr α) (.node .nil none .nil) (fun a b c _ _ => .node .nil none (.node a b c)) (Tr.one o d (k / 2)) : Tr α).get j = _
        rw [e3, Tr.get_node]
        by_cases hj : j = 1
        · subst hj
          rw [if_neg (show ¬ 1 = k by omega)] <;> rfl
        · rw [beq_no hj]
          by_cases hjp : j % 2 = 0
          · rw [beq_yes hjp, if_neg (show ¬ j = k by omega)] <;> rfl
          · rw [beq_no hjp]
            show (Tr.one o d (k / 2)).get (j / 2) = _
            rw [ih (j / 2) (by omega)]
            by_cases hjk : j = k
            · subst hjk; rw [if_pos rfl, if_pos rfl]
            · rw [if_neg hjk, if_neg (show ¬ j / 2 = k / 2 by omega)]

theorem Tr.put_node {α : Type} (d : Nat) (l : Tr α) (v : Option α) (r : Tr α) (k : Nat) (o : Option α) : (Tr.node l v r).put d k o = match Nat.beq k 1 with
    | true => .node l o r
    | false => match Nat.beq (k % 2) 0 with
      | true => .node (l.put d (k / 2) o) v r
      | false => .node l v (r.put d (k / 2) o) := by
  show (Bool.rec (motive := fun _ => Tr α)
      (Bool.rec (motive := fun _ => Tr α)
        (Tr.rec (motive := fun _ => Tr α) (.node l v .nil) (fun a b c _ _ => .node l v (.node a b c)) (r.put d (k / 2) o))
        (Tr.rec (motive := fun _ => Tr α) (.node .nil v r) (fun a b c _ _ => .node (.node a b c) v r) (l.put d (k / 2) o))
        (Nat.beq (k % 2) 0))
      (.node l o r) (Nat.beq k 1) : Tr α) = _
  rw [tr_id (r.put d (k / 2) o) (fun x => .node l v x), tr_id (l.put d (k / 2) o) (fun x => .node x v r)]
  cases Nat.beq k 1 <;> cases Nat.beq (k % 2) 0 <;> rfl

theorem Tr.get_put {α : Type} (d : Nat) : ∀ (t : Tr α) (k : Nat) (o : Option α) (j : Nat), 1 ≤ k → k < 2 ^ d → 1 ≤ j → (t.put d k o).get j = if j = k then o else t.get j
  | .nil, k, o, j, h1, h2, h3 => Tr.one_get o d k j h1 h2 h3
  | .node l v r, k, o, j, h1, h2, h3 => by
    rw [Tr.put_node, Tr.get_node]
    have ihl := fun (i : Nat) (hk : 2 ≤ k) (hi : 1 ≤ i) => Tr.get_put d l (k / 2) o i (by omega) (by omega) hi
    have ihr := fun (i : Nat) (hk : 2 ≤ k) (hi : 1 ≤ i) => Tr.get_put d r (k / 2) o i (by omega) (by omega) hi
    by_cases hk : k = 1
    · subst hk
      show (Tr.node l o r).get j = _
      rw [Tr.get_node]
      by_cases hj : j = 1
      · subst hj; simp
      · rw [if_neg hj]
        simp only [beq_no hj]
    · simp only [beq_no hk]
      by_cases hp : k % 2 = 0
      · simp only [beq_yes hp, Tr.get_node]
        by_cases hj : j = 1
        · subst hj; rw [if_neg (show ¬ 1 = k by omega)] <;> rfl
        · simp only [beq_no hj]
          by_cases hjp : j % 2 = 0
          · simp only [beq_yes hjp]
            rw [ihl (j / 2) (by omega) (by omega)]
            by_cases hjk : j = k
            · subst hjk; rw [if_pos rfl, if_pos rfl]
            · rw [if_neg hjk, if_neg (show ¬ j / 2 = k / 2 by omega)]
          · simp only [beq_no hjp]
            rw [if_neg (show ¬ j = k by omega)]
      · simp only [beq_no hp, Tr.get_node]
        by_cases hj : j = 1
        · subst hj; rw [if_neg (show ¬ 1 = k by omega)] <;> rfl
        · simp only [beq_no hj]
          by_cases hjp : j % 2 = 0
          · simp only [beq_yes hjp]
            rw [if_neg (show ¬ j = k by omega)]
          · simp only [beq_no hjp]
            rw [ihr (j / 2) (by omega) (by omega)]
            by_cases hjk : j = k
            · subst hjk; rw [if_pos rfl, if_pos rfl]
            · rw [if_neg hjk, if_neg (show ¬ j / 2 = k / 2 by omega)]

/-! ### What is made at once -/

def fNat {β : Sort _} (n : Nat) (c : Nat → β) : β := Nat.rec (motive := fun _ => β) (c 0) (fun k _ => c (Nat.succ k)) n
theorem fNat_eq {β : Sort _} (n : Nat) (c : Nat → β) : fNat n c = c n := by cases n <;> rfl
def fInt {β : Sort _} (n : Int) (c : Int → β) : β := match n with | .ofNat m => fNat m fun m => c (.ofNat m) | .negSucc m => fNat m fun m => c (.negSucc m)
theorem fInt_eq {β : Sort _} (n : Int) (c : Int → β) : fInt n c = c n := by cases n <;> simp [fInt, fNat_eq]
def fBool {β : Sort _} (b : Bool) (c : Bool → β) : β := match b with | true => c true | false => c false
theorem fBool_eq {β : Sort _} (b : Bool) (c : Bool → β) : fBool b c = c b := by cases b <;> rfl
def fAddr {β : Sort _} (a : Addr) (c : Addr → β) : β := match a with | ⟨b, o, s⟩ => fNat b fun b => fNat o fun o => c ⟨b, o, s⟩
theorem fAddr_eq {β : Sort _} (a : Addr) (c : Addr → β) : fAddr a c = c a := by cases a; simp [fAddr, fNat_eq]
def fVal1 {β : Sort _} (v : Value) (c : Value → β) : β :=
  match v with
  | .bool b => fBool b fun b => c (.bool b)
  | .int k n => fInt n fun n => c (.int k n)
  | .float k n => c (.float k n)
  | .complex k x y => c (.complex k x y)
  | .string s => c (.string s)
  | .pointer none => c (.pointer none)
  | .pointer (some a) => fAddr a fun a => c (.pointer (some a))
  | .slice none n m => fNat n fun n => fNat m fun m => c (.slice none n m)
  | .slice (some a) n m => fAddr a fun a => fNat n fun n => fNat m fun m => c (.slice (some a) n m)
  | .map none => c (.map none)
  | .map (some r) => fNat r fun r => c (.map (some r))
  | .func f x y => c (.func f x y)
  | .nilFunc => c .nilFunc
  | .iface t v => c (.iface t v)
  | .nilIface => c .nilIface
  | v => c v
theorem fVal1_eq {β : Sort _} (v : Value) (c : Value → β) : fVal1 v c = c v := by
  unfold fVal1
  split <;> simp [fBool_eq, fInt_eq, fAddr_eq, fNat_eq]
def fList {β : Sort _} : List Value → (List Value → β) → β
  | [], c => c []
  | v :: l, c => fVal1 v fun v => fList l fun l => c (v :: l)
theorem fList_eq {β : Sort _} : ∀ (l : List Value) (c : List Value → β), fList l c = c l
  | [], c => rfl
  | v :: l, c => by rw [fList, fVal1_eq, fList_eq l]
def fVal {β : Sort _} (v : Value) (c : Value → β) : β :=
  match v with
  | .agg ⟨l⟩ => fList l fun l => c (.agg ⟨l⟩)
  | .tuple ⟨l⟩ => fList l fun l => c (.tuple ⟨l⟩)
  | v => fVal1 v c
theorem fVal_eq {β : Sort _} (v : Value) (c : Value → β) : fVal v c = c v := by
  unfold fVal
  split <;> simp [fList_eq, fVal1_eq]
def fPairs {β : Sort _} : List (Value × Value) → (List (Value × Value) → β) → β
  | [], c => c []
  | (k, v) :: l, c => fVal k fun k => fVal v fun v => fPairs l fun l => c ((k, v) :: l)
theorem fPairs_eq {β : Sort _} : ∀ (l : List (Value × Value)) (c : List (Value × Value) → β), fPairs l c = c l
  | [], c => rfl
  | (k, v) :: l, c => by rw [fPairs, fVal_eq, fVal_eq, fPairs_eq l]
def fObj {β : Sort _} (o : Option AObj) (c : Option AObj → β) : β :=
  match o with
  | none => c none
  | some (.cells l own u) => fList l fun l => fBool own fun own => fNat u fun u => c (some (.cells l own u))
  | some (.map l own) => fPairs l fun l => fBool own fun own => c (some (.map l own))
theorem fObj_eq {β : Sort _} (o : Option AObj) (c : Option AObj → β) : fObj o c = c o := by
  unfold fObj
  split <;> simp [fList_eq, fPairs_eq, fBool_eq, fNat_eq]
def fTr {α : Type} {β : Sort _} (t : Tr α) (c : Tr α → β) : β := match t with | .nil => c .nil | .node l v r => c (.node l v r)
theorem fTr_eq {α : Type} {β : Sort _} (t : Tr α) (c : Tr α → β) : fTr t c = c t := by cases t <;> rfl

/-! ### Memory and frames -/

structure EM where
  next : Nat
  t : Tr AObj
def EM.aw (m : EM) : AW := ⟨m.next, fun i => m.t.get (i + 1)⟩
def EM.empty (n : Nat) : EM := ⟨n, .nil⟩
theorem EM.empty_aw {n : Nat} (h : Gl.N = n) : (EM.empty n).aw = AW.empty := by subst h; rfl

abbrev FT := Tr Value
def FT.fr (a : FT) : Fr := fun i => (a.get (i + 1)).getD undef
def putT {β : Sort _} (a : FT) (d : Option Tmp) (v : Value) (c : FT → β) : β :=
  match d with
  | some i => fTr (a.put 24 (i + 1) (some v)) c
  | none => c a
def smallT (d : Option Tmp) : Bool := match d with | some i => Nat.ble i 1000000 | none => true
theorem putT_eq {β : Sort _} {a : FT} {d : Option Tmp} {v : Value} {c : FT → β} (hd : smallT d = true) : ∃ a', putT a d v c = c a' ∧ a'.fr = putF a.fr d v := by
  cases d with
  | none => exact ⟨a, rfl, rfl⟩
  | some i =>
    have hi : i ≤ 1000000 := Nat.le_of_ble_eq_true hd
    refine ⟨a.put 24 (i + 1) (some v), by simp [putT, fTr_eq], ?_⟩
    funext j
    simp only [FT.fr, putF, upd]
    rw [Tr.get_put 24 a (i + 1) (some v) (j + 1) (Nat.le_add_left 1 i) (Nat.lt_of_le_of_lt (Nat.succ_le_succ hi) (by decide)) (Nat.le_add_left 1 j)]
    by_cases e : j = i
    · subst e; simp
    · rw [if_neg (by omega), if_neg e]

/-! ### What an operation writes -/

def touched (A : AW) (r : Operand → Value) : Op → List Nat
  | .alloc _ => [A.next]
  | .box _ _ => [A.next]
  | .buildSlice _ _ _ => [A.next]
  | .makeSlice _ _ _ => [A.next]
  | .makeMap _ _ => [A.next]
  | .store _ x _ => match r x with | .pointer (some p) => [p.block] | _ => []
  | .mapUpdate _ x _ _ => match r x with | .map (some q) => [q] | _ => []
  | .insert _ x _ _ => match r x with | .map (some q) => [q] | _ => []
  | .call c => match c.args.toList with
    | s :: _ => match r s with | .slice (some p) _ _ => [p.block, A.next] | _ => [A.next]
    | _ => []
  | _ => []

theorem alloc_frame {A : AW} {o : AObj} {j : Nat} (h : j ∉ [A.next]) : (A.alloc o).get j = A.get j := by
  simp at h
  simp [AW.alloc, h]

theorem upd_frame {P : Program} {A A1 : AW} {t : TypeId} {x k v : Value} (h : amapUpdate P A t x k v = some A1) {j : Nat} (hj : j ∉ (match x with | .map (some q) => [q] | _ => [])) : A1.get j = A.get j := by
  unfold amapUpdate at h
  split at h
  · simp only [List.mem_singleton] at hj
    repeat' (split at h)
    all_goals (first | (cases h; done) | (injection h with h; rw [← h]; simp [AW.set, hj]))
  · cases h
theorem olds_base {A : AW} {size : Nat} {s : Value} {a : Addr} {k : Nat} {olds : List Value} (h : appOlds A size s = some (some a, k, olds)) : ∃ n c, s = .slice (some a) n c := by
  unfold appOlds at h
  repeat' (split at h)
  all_goals (first | (cases h; done) | (simp only [Option.some.injEq, Prod.mk.injEq] at h; obtain ⟨h1, _⟩ := h; first | (cases h1; done) | (subst h1; exact ⟨_, _, rfl⟩)))
theorem base_frame {A : AW} {size : Nat} {s : Value} {base : Option Addr} {k : Nat} {olds : List Value} (h : appOlds A size s = some (base, k, olds)) {j : Nat}
    (hj : j ∉ (match s with | .slice (some p) _ _ => [p.block, A.next] | _ => [A.next])) {o : AObj} : ((match base with | some a => A.set a.block none | none => A).alloc o).get j = A.get j := by
  cases base with
  | none =>
    refine alloc_frame fun hm => hj ?_
    split
    · simp at hm ⊢; exact .inr hm
    · exact hm
  | some a =>
    obtain ⟨n, c, rfl⟩ := olds_base h
    simp at hj
    simp [AW.alloc, AW.set, hj.1, hj.2]
theorem app_frame {P : Program} {A A1 : AW} {t u : TypeId} {s x v : Value} (h : aappend P A t u s x = some (v, A1)) {j : Nat} (hj : j ∉ (match s with | .slice (some p) _ _ => [p.block, A.next] | _ => [A.next])) : A1.get j = A.get j := by
  unfold aappend at h
  split at h <;> try (cases h; done)
  split at h <;> try (cases h; done)
  split at h <;> try (cases h; done)
  split at h <;> try (cases h; done)
  split at h <;> try (cases h; done)
  rename_i hol
  split at h
  · injection h with h; injection h with h1 h2; rw [h2]
  · split at h <;> try (cases h; done)
    injection h with h; injection h with h1 h2
    rw [← h2]
    exact base_frame hol hj
theorem appZ_frame {P : Program} {A A1 : AW} {t u : TypeId} {s x v : Value} (h : aappendZ P A t u s x = some (v, A1)) {j : Nat} (hj : j ∉ (match s with | .slice (some p) _ _ => [p.block, A.next] | _ => [A.next])) : A1.get j = A.get j := by
  unfold aappendZ at h
  split at h <;> try (cases h; done)
  split at h <;> try (cases h; done)
  split at h <;> try (cases h; done)
  split at h <;> try (cases h; done)
  rename_i hol
  split at h <;> try (cases h; done)
  split at h
  · injection h with h; injection h with h1 h2; rw [h2]
  · injection h with h; injection h with h1 h2
    rw [← h2]
    exact base_frame hol hj
theorem clear_frame {P : Program} {A A1 : AW} {t : TypeId} {x : Value} (h : aclear P A t x = some A1) {j : Nat} (hj : j ∉ (match x with | .slice (some p) _ _ => [p.block, A.next] | _ => [A.next])) : A1.get j = A.get j := by
  unfold aclear at h
  split at h
  · injection h with h; rw [h]
  · simp only [List.mem_cons, not_or] at hj
    repeat' (split at h)
    all_goals (first | (cases h; done) | (injection h with h; subst h; simp [AW.set, hj.1]))
  · cases h

theorem ae_frame {P : Program} {A A1 : AW} {r : Operand → Value} {op : Op} {v : Value} (h : ae P A r op = some (v, A1)) : ∀ j, j ∉ touched A r op → A1.get j = A.get j := by
  intro j hj
  cases op <;> simp only [ae] at h <;> (try (cases h; done)) <;> simp only [touched] at hj
  case alloc t =>
    unfold aalloc at h
    split at h <;> try (cases h; done)
    split at h <;> try (cases h; done)
    split at h <;> try (cases h; done)
    injection h with h
    injection h with h1 h2
    rw [← h2]; exact alloc_frame hj
  case box t x =>
    injection h with h
    have e : A1 = (abox A (r x)).2 := by rw [h]
    rw [e]; exact alloc_frame hj
  case buildSlice t len ps =>
    unfold abuildSlice at h
    split at h <;> try (cases h; done)
    split at h <;> try (cases h; done)
    split at h <;> try (cases h; done)
    split at h <;> try (cases h; done)
    split at h <;> try (cases h; done)
    injection h with h; injection h with h1 h2
    rw [← h2]; exact alloc_frame hj
  case store t x y =>
    split at h
    · rename_i p hp
      rw [hp] at hj
      simp only [List.mem_singleton] at hj
      split at h
      · rename_i A2 hst
        injection h with h; injection h with h1 h2
        rw [← h2]
        unfold astore at hst
        repeat' (split at hst)
        all_goals (first | (cases hst; done) | (injection hst with hst; rw [← hst]; simp [AW.set, hj]))
      · cases h
    · cases h
  case makeSlice t l c =>
    unfold amake at h
    split at h <;> try (cases h; done)
    split at h <;> try (cases h; done)
    split at h <;> try (cases h; done)
    split at h <;> try (cases h; done)
    injection h with h; injection h with h1 h2
    rw [← h2]; exact alloc_frame hj
  case makeMap t x =>
    unfold amakeMap at h
    repeat' (split at h)
    all_goals (first | (cases h; done) | (injection h with h; injection h with h1 h2; rw [← h2]; exact alloc_frame hj))
  case mapUpdate t x k y =>
    split at h
    · rename_i A2 hst
      injection h with h; injection h with h1 h2
      rw [← h2]
      exact upd_frame hst hj
    · cases h
  case insert t x k y =>
    split at h
    · rename_i A2 hst
      injection h with h; injection h with h1 h2
      rw [← h2]
      exact upd_frame hst hj
    · cases h
  case call c =>
    obtain ⟨callee, args, argTypes⟩ := c
    simp only at h hj
    split at h
    · rename_i s x t u h1 h2 h3
      rw [h2] at hj
      simp only at hj
      split at h
      · exact app_frame h hj
      · exact appZ_frame h hj
    · rename_i x t h1 h2 h3
      rw [h2] at hj
      simp only at hj
      split at h
      · rename_i A2 hst
        injection h with h; injection h with h4 h5
        rw [← h5]
        exact clear_frame hst hj
      · cases h
    · cases h

/-! ### The same operations, laid out arm by arm (the kernel then makes only the arm that it needs) -/

def qPick (r : Operand → Value) (c x y : Operand) : Option Value := match r c with | .bool b => some (if b then r x else r y) | _ => none
def qLoad (P : Program) (A : AW) (r : Operand → Value) (t : TypeId) (x : Operand) : Option Value := match r x with | .pointer (some p) => aload P A t p | _ => none
def qNil (r : Operand → Value) (x : Operand) : Option Value := match r x with | .pointer (some p) => some (.pointer (some p)) | _ => none
def qBin (P : Program) (r : Operand → Value) (op : BinOp) (t : TypeId) (x y : Operand) : Option Value :=
  match y, r y with
  | .const .nilIface, .nilIface => aeqNil P op t (r x)
  | _, _ => abin2 P op t (r x) (r y)
def qConv (P : Program) (A : AW) (r : Operand → Value) (s d : TypeId) (x : Operand) : Option Value := match aconv P s d (r x) with | some v => some v | none => abytes P A s d (r x)
def qSlice (P : Program) (A : AW) (r : Operand → Value) (t : TypeId) (x : Operand) (lo hi mx : Option Operand) : Option Value :=
  match mx with
  | none => aslice P A t (r x) (lo.map r) (hi.map r) none
  | some q => aslice0 P t (r x) (lo.map r) (hi.map r) (r q)
def qExt (r : Operand → Value) (t : Operand) (i : Nat) : Option Value := match r t with | .tuple vs => vs[i]? | _ => none
def qCall (P : Program) (r : Operand → Value) (c : Call) : Option Value :=
  match c.callee, c.args.toList, c.argTypes.toList with
  | .builtin .len, [x], [t] => alen P t (r x)
  | .builtin .min, [x, y], _ => amin false [r x, r y]
  | .builtin .max, [x, y], _ => amin true [r x, r y]
  | _, _, _ => none
def aqX (P : Program) (A : AW) (r : Operand → Value) : Op → Option Value
  | .move x => some (r x)
  | .assign x => some (r x)
  | .pick c x y => qPick r c x y
  | .build t ps => abuild P t (aparts r ps)
  | .load t x => qLoad P A r t x
  | .nilCheck x => qNil r x
  | .binOp op t x y _ => qBin P r op t x y
  | .unOp op _ x => aun op (r x)
  | .convert s d x => qConv P A r s d x
  | .makeInterface t x => amakeIface P t (r x)
  | .slice t x lo hi mx => qSlice P A r t x lo hi mx
  | .lookup t x ix c => alookup P A t (r x) (r ix) c
  | .fieldAddr s x f => afieldAddr P s (r x) f
  | .field t x f => afield P t (r x) f
  | .indexAddr t x ix => aindexAddr P t (r x) (r ix)
  | .index t x ix => aindex P t (r x) (r ix)
  | .extract t i => qExt r t i
  | .makeFunc fn fs cs => some (.func fn (fs.map r) (cs.map r))
  | .call c => qCall P r c
  | _ => none
theorem aqX_eq (P : Program) (A : AW) (r : Operand → Value) (op : Op) : aqX P A r op = aq P A r op := by cases op <;> rfl

def eStore (P : Program) (A : AW) (r : Operand → Value) (t : TypeId) (x y : Operand) : Option (Value × AW) :=
  match r x with
  | .pointer (some p) =>
    match astore P A t p (r y) with
    | some A1 => some (undef, A1)
    | none => none
  | _ => none
def eMapUpd (P : Program) (A : AW) (r : Operand → Value) (t : TypeId) (x k v : Operand) : Option (Value × AW) := match amapUpdate P A t (r x) (r k) (r v) with | some A1 => some (undef, A1) | none => none
def eCall (P : Program) (A : AW) (r : Operand → Value) (c : Call) : Option (Value × AW) :=
  match c.callee, c.args.toList, c.argTypes.toList with
  | .builtin .append, [s, x], [t, u] => if t = u then aappend P A t u (r s) (r x) else aappendZ P A t u (r s) (r x)
  | .builtin .clear, [x], [t] =>
    match aclear P A t (r x) with
    | some A1 => some (undef, A1)
    | none => none
  | _, _, _ => none
def aeX (P : Program) (A : AW) (r : Operand → Value) : Op → Option (Value × AW)
  | .alloc t => aalloc P A t
  | .box _ x => some (abox A (r x))
  | .buildSlice t len ps => abuildSlice P A t len (aparts r ps)
  | .store t x y => eStore P A r t x y
  | .makeSlice t l c => amake P A t (r l) (r c)
  | .makeMap t x => amakeMap P A t (x.map r)
  | .mapUpdate t x k v => eMapUpd P A r t x k v
  | .insert t x k v => eMapUpd P A r t x k v
  | .call c => eCall P A r c
  | _ => none
theorem aeX_eq (P : Program) (A : AW) (r : Operand → Value) (op : Op) : aeX P A r op = ae P A r op := by cases op <;> rfl

/-! ### One operation -/

def absT {β : Sort _} (A1 : AW) : List Nat → Tr AObj → (Tr AObj → β) → β
  | [], t, c => c t
  | j :: js, t, c => fObj (A1.get j) fun o => fTr (t.put 24 (j + 1) o) fun t => absT A1 js t c
def absorb {β : Sort _} (m : EM) (A1 : AW) (js : List Nat) (c : EM → β) : β := fNat A1.next fun n => absT A1 js m.t fun t => c ⟨n, t⟩
def smallL : List Nat → Bool
  | [] => true
  | j :: js => match Nat.ble j 1000000 with | true => smallL js | false => false

theorem absT_eq {β : Sort _} {A1 : AW} {c : Tr AObj → β} : ∀ (js : List Nat) (t : Tr AObj), smallL js = true → ∃ t', absT A1 js t c = c t' ∧ ∀ i, t'.get (i + 1) = if i ∈ js then A1.get i else t.get (i + 1)
  | [], t, _ => ⟨t, rfl, fun i => by simp⟩
  | j :: js, t, h => by
    unfold smallL at h
    split at h
    · rename_i hj
      have hj : j ≤ 1000000 := Nat.le_of_ble_eq_true hj
      obtain ⟨t', h1, h2⟩ := absT_eq (c := c) js (t.put 24 (j + 1) (A1.get j)) h
      refine ⟨t', by rw [absT, fObj_eq, fTr_eq]; exact h1, fun i => ?_⟩
      rw [h2, Tr.get_put 24 t (j + 1) _ (i + 1) (Nat.le_add_left 1 j) (Nat.lt_of_le_of_lt (Nat.succ_le_succ hj) (by decide)) (Nat.le_add_left 1 i)]
      by_cases e : i = j
      · subst e; simp
      · have : ¬ i + 1 = j + 1 := by omega
        simp [e, this]
    · cases h

theorem absorb_eq {β : Sort _} {m : EM} {A1 : AW} {js : List Nat} {c : EM → β} (hs : smallL js = true) (hf : ∀ j, j ∉ js → A1.get j = m.aw.get j) : ∃ m', absorb m A1 js c = c m' ∧ m'.aw = A1 := by
  obtain ⟨t', h1, h2⟩ := absT_eq (A1 := A1) (c := fun t => c ⟨A1.next, t⟩) js m.t hs
  refine ⟨⟨A1.next, t'⟩, by rw [absorb, fNat_eq]; exact h1, ?_⟩
  obtain ⟨n, g⟩ := A1
  simp only [EM.aw]
  congr 1
  funext i
  rw [h2]
  split
  · rfl
  · rename_i hi; exact (hf i hi).symm

abbrev ECall := FuncId → List Value → EM → Option (Value × EM)
/-- What an evaluator of calls says is so. -/
def ECall.Ok (P : Program) (call : ECall) : Prop := ∀ f args m v m', call f args m = some (v, m') → ACall P f args m.aw fun u A' => u = v ∧ A' = m'.aw

def evCallee (call : ECall) (r : Operand → Value) (c : Call) (m : EM) : Option (Value × EM) :=
  match c.callee with
  | .value x =>
    match r x with
    | .func (.func f) fs cs => fList (fs.toList ++ c.args.toList.map r ++ cs.toList) fun args => call f args m
    | _ => none
  | _ => none
def evGo (call : ECall) (r : Operand → Value) (op : Op) (m : EM) : Option (Value × EM) :=
  match op with
  | .call c => evCallee call r c m
  | _ => none
def evTake (r : Operand → Value) (op : Op) (m : EM) (v : Value) (A1 : AW) : Option (Value × EM) :=
  match smallL (touched m.aw r op) with
  | true => fVal v fun v => absorb m A1 (touched m.aw r op) fun m' => some (v, m')
  | false => none
def evMem (P : Program) (call : ECall) (r : Operand → Value) (op : Op) (m : EM) : Option (Value × EM) :=
  match aeX P m.aw r op with
  | some (v, A1) => evTake r op m v A1
  | none => evGo call r op m
def evOp (P : Program) (call : ECall) (r : Operand → Value) (op : Op) (m : EM) : Option (Value × EM) :=
  match aqX P m.aw r op with
  | some v => fVal v fun v => some (v, m)
  | none => evMem P call r op m

theorem evOp_sound {P : Program} {call : ECall} (hc : call.Ok P) {r : Operand → Value} {op : Op} {m m' : EM} {v : Value} (h : evOp P call r op m = some (v, m')) {k : Value → AW → Prop} (hk : k v m'.aw) : AStep P op r m.aw k := by
  unfold evOp at h
  rw [aqX_eq] at h
  unfold evMem at h
  rw [aeX_eq] at h
  unfold AStep
  split at h
  · rename_i u hu
    rw [hu]
    rw [fVal_eq] at h
    simp only [Option.some.injEq, Prod.mk.injEq] at h
    obtain ⟨rfl, rfl⟩ := h
    exact hk
  · rename_i hu
    rw [hu]
    split at h
    · rename_i u A1 hu1
      rw [hu1]
      unfold evTake at h
      split at h
      · rename_i hs
        rw [fVal_eq] at h
        obtain ⟨m1, h1, h2⟩ := absorb_eq (c := fun m' => some (u, m')) hs (ae_frame hu1)
        rw [h1] at h
        simp only [Option.some.injEq, Prod.mk.injEq] at h
        obtain ⟨rfl, rfl⟩ := h
        rw [h2] at hk
        exact hk
      · cases h
    · rename_i hu1
      rw [hu1]
      unfold evGo at h
      split at h
      · rename_i c
        unfold evCallee at h
        split at h
        · rename_i x hx
          split at h
          · rename_i f fs cs hf
            rw [fList_eq] at h
            simp only [ACallK, hx, hf]
            refine (hc _ _ _ _ _ h).mono ?_
            rintro u A' ⟨rfl, rfl⟩
            exact hk
          · cases h
        · cases h
      · cases h

/-! ### Regions -/

def evOps (P : Program) (call : ECall) (ops : Array Oper) : List Oper → FT → EM → Option (FT × EM)
  | [], a, m => some (a, m)
  | o :: rest, a, m =>
    match smallT o.dst with
    | false => none
    | true =>
      match gval ops a.fr o with
      | true =>
        match evOp P call (evF a.fr) o.op m with
        | some (v, m') => putT a o.dst v fun a' => evOps P call ops rest a' m'
        | none => none
      | false => putT a o.dst undef fun a' => evOps P call ops rest a' m

theorem evOps_sound {P : Program} {call : ECall} (hc : call.Ok P) {ops : Array Oper} {K : Fr → AW → Prop} : ∀ (l : List Oper) (a : FT) (m : EM) {a' : FT} {m' : EM}, evOps P call ops l a m = some (a', m') → K a'.fr m'.aw → AOps P ops K l a.fr m.aw
  | [], a, m, a', m', h, hk => by
    simp only [evOps, Option.some.injEq, Prod.mk.injEq] at h
    obtain ⟨rfl, rfl⟩ := h
    exact hk
  | o :: rest, a, m, a', m', h, hk => by
    unfold evOps at h
    unfold AOps
    split at h
    · cases h
    · rename_i hd
      split at h
      · rename_i hg
        rw [if_pos hg]
        split at h
        · rename_i v m1 hv
          refine evOp_sound hc hv ?_
          obtain ⟨a1, h1, h2⟩ := putT_eq (a := a) (v := v) (c := fun a' => evOps P call ops rest a' m1) hd
          rw [h1] at h
          rw [← h2]
          exact evOps_sound hc rest a1 m1 h hk
        · cases h
      · rename_i hg
        rw [if_neg (by simp [hg])]
        obtain ⟨a1, h1, h2⟩ := putT_eq (a := a) (v := undef) (c := fun a' => evOps P call ops rest a' m) hd
        rw [h1] at h
        rw [← h2]
        exact evOps_sound hc rest a1 m h hk

abbrev Rd := Op × FT × Value
def evLin (P : Program) (call : ECall) : List LOp → FT → EM → Option (FT × EM × List Rd × List EM)
  | [], a, m => some (a, m, [], [])
  | o :: rest, a, m =>
    match smallT o.dst with
    | false => none
    | true =>
      match sg a.fr o.guard with
      | true =>
        match Nat.ble o.mode 1 with
        | true =>
          match aqX P m.aw (evF a.fr) o.op with
          | some v => fVal v fun v => putT a o.dst v fun a' =>
            match evLin P call rest a' m with
            | some (a2, m2, rs, ms) => some (a2, m2, (match Nat.beq o.mode 1 with | true => (o.op, a, v) :: rs | false => rs), ms)
            | none => none
          | none => none
        | false =>
          match Nat.beq o.mode 2 with
          | true => none
          | false =>
            match evOp P call (evF a.fr) o.op m with
            | some (v, m') => putT a o.dst v fun a' =>
              match evLin P call rest a' m' with
              | some (a2, m2, rs, ms) => some (a2, m2, rs, (match Nat.beq o.mode 3 with | true => m' :: ms | false => ms))
              | none => none
            | none => none
      | false => putT a o.dst undef fun a' => evLin P call rest a' m

theorem evLin_sound {P : Program} {call : ECall} (hc : call.Ok P) {S : AW → Prop} {K : Fr → AW → Prop} : ∀ (l : List LOp) (a : FT) (m : EM) {a' : FT} {m' : EM} {rs : List Rd} {ms : List EM}, evLin P call l a m = some (a', m', rs, ms) →
    (∀ x ∈ rs, ∀ A', S A' → aq P A' (evF x.2.1.fr) x.1 = some x.2.2) → (∀ m ∈ ms, S m.aw) → K a'.fr m'.aw → LWalk P S K l a.fr m.aw
  | [], a, m, a', m', rs, ms, h, _, _, hk => by
    simp only [evLin, Option.some.injEq, Prod.mk.injEq] at h
    obtain ⟨rfl, rfl, _⟩ := h
    exact hk
  | o :: rest, a, m, a', m', rs, ms, h, hr, hm, hk => by
    unfold evLin at h
    unfold LWalk
    split at h
    · cases h
    · rename_i hd
      split at h
      · rename_i hg
        rw [if_pos hg]
        split at h
        · rename_i hmo
          have hle : o.mode ≤ 1 := Nat.le_of_ble_eq_true hmo
          rw [aqX_eq] at h
          split at h
          · rename_i v hv
            rw [fVal_eq] at h
            obtain ⟨a1, h1, h2⟩ := putT_eq (a := a) (v := v) (c := fun a' => match evLin P call rest a' m with
              | some (a2, m2, rs, ms) => some (a2, m2, (match Nat.beq o.mode 1 with | true => ((o.op, a, v) : Rd) :: rs | false => rs), ms)
              | none => none) hd
            rw [h1] at h
            split at h
            · rename_i a2 m2 rs1 ms1 hrest
              simp only [Option.some.injEq, Prod.mk.injEq] at h
              obtain ⟨rfl, rfl, hrs, rfl⟩ := h
              have hmode : o.mode = 0 ∨ o.mode = 1 := by omega
              rcases hmode with e | e
              · rw [e] at hrs ⊢
                simp only [Nat.beq] at hrs
                subst hrs
                simp only [AqK, hv]
                rw [← h2]
                exact evLin_sound hc rest a1 m hrest hr hm hk
              · rw [e] at hrs ⊢
                simp only [Nat.beq] at hrs
                subst hrs
                simp only [AqK, hv]
                refine ⟨fun A' hA' => hr (o.op, a, v) (by simp) A' hA', ?_⟩
                rw [← h2]
                exact evLin_sound hc rest a1 m hrest (fun x hx => hr x (by simp [hx])) hm hk
            · cases h
          · cases h
        · rename_i hmo
          split at h
          · cases h
          · rename_i hm2
            split at h
            · rename_i v m1 hv
              obtain ⟨a1, h1, h2⟩ := putT_eq (a := a) (v := v) (c := fun a' => match evLin P call rest a' m1 with
                | some (a2, m2, rs, ms) => some (a2, m2, rs, (match Nat.beq o.mode 3 with | true => m1 :: ms | false => ms))
                | none => none) hd
              rw [h1] at h
              split at h
              · rename_i a2 m2 rs1 ms1 hrest
                simp only [Option.some.injEq, Prod.mk.injEq] at h
                obtain ⟨rfl, rfl, rfl, hms⟩ := h
                have hge : ¬ o.mode ≤ 1 := fun hle => by rw [Nat.ble_eq_true_of_le hle] at hmo; cases hmo
                have hne : o.mode ≠ 2 := fun e => by rw [e] at hm2; cases hm2
                have hq : ∃ q, o.mode = q + 3 := ⟨o.mode - 3, by omega⟩
                obtain ⟨q, hq⟩ := hq
                rw [hq] at hms ⊢
                cases q with
                | zero =>
                  simp only [Nat.beq] at hms
                  subst hms
                  refine evOp_sound hc hv ⟨hm m1 (by simp), ?_⟩
                  rw [← h2]
                  exact evLin_sound hc rest a1 m1 hrest hr (fun x hx => hm x (by simp [hx])) hk
                | succ q =>
                  have e3 : Nat.beq (q + 1 + 3) 3 = false := beq_no (by omega)
                  rw [e3] at hms
                  simp only at hms
                  subst hms
                  refine evOp_sound hc hv ?_
                  rw [← h2]
                  exact evLin_sound hc rest a1 m1 hrest hr hm hk
              · cases h
            · cases h
      · rename_i hg
        have hg' : ¬ sg a.fr o.guard = true := by rw [hg]; simp
        rw [if_neg hg']
        obtain ⟨a1, h1, h2⟩ := putT_eq (a := a) (v := undef) (c := fun a' => evLin P call rest a' m) hd
        rw [h1] at h
        rw [← h2]
        exact evLin_sound hc rest a1 m h hr hm hk

/-! ### Equal values -/

def optAddrEq : Option Addr → Option Addr → Bool
  | none, none => true
  | some ⟨b, o, none⟩, some ⟨b', o', none⟩ => match Nat.beq b b' with | true => Nat.beq o o' | false => false
  | _, _ => false
theorem optAddrEq_eq : ∀ {x y : Option Addr}, optAddrEq x y = true → x = y := by
  intro x y h
  unfold optAddrEq at h
  split at h
  · rfl
  · split at h
    · rename_i e
      rw [Nat.eq_of_beq_eq_true e, Nat.eq_of_beq_eq_true h]
    · cases h
  · cases h
def intEq : Int → Int → Bool
  | .ofNat a, .ofNat b => Nat.beq a b
  | .negSucc a, .negSucc b => Nat.beq a b
  | _, _ => false
theorem intEq_eq {x y : Int} (h : intEq x y = true) : x = y := by
  unfold intEq at h
  split at h
  · rw [Nat.eq_of_beq_eq_true h]
  · rw [Nat.eq_of_beq_eq_true h]
  · cases h
def veq1 : Value → Value → Bool
  | .bool true, .bool true => true
  | .bool false, .bool false => true
  | .int k n, .int k' n' => match decide (k = k') with | true => intEq n n' | false => false
  | .string s, .string s' => decide (s.data = s'.data)
  | .pointer p, .pointer p' => optAddrEq p p'
  | .slice p n m, .slice p' n' m' => match optAddrEq p p' with | true => (match Nat.beq n n' with | true => Nat.beq m m' | false => false) | false => false
  | .map none, .map none => true
  | .map (some r), .map (some r') => Nat.beq r r'
  | .nilFunc, .nilFunc => true
  | .nilIface, .nilIface => true
  | _, _ => false
theorem veq1_eq {x y : Value} (h : veq1 x y = true) : x = y := by
  unfold veq1 at h
  split at h
  · rfl
  · rfl
  · split at h
    · rename_i e; rw [of_decide_eq_true e, intEq_eq h]
    · cases h
  · rename_i s s'
    have := of_decide_eq_true h
    cases s; cases s'
    simp only at this
    rw [this]
  · rw [optAddrEq_eq h]
  · split at h
    · rename_i e
      split at h
      · rename_i e2
        rw [optAddrEq_eq e, Nat.eq_of_beq_eq_true e2, Nat.eq_of_beq_eq_true h]
      · cases h
    · cases h
  · rfl
  · rw [Nat.eq_of_beq_eq_true h]
  · rfl
  · rfl
  · cases h
def veqL : List Value → List Value → Bool
  | [], [] => true
  | x :: l, y :: l' => match veq1 x y with | true => veqL l l' | false => false
  | _, _ => false
theorem veqL_eq : ∀ {l l' : List Value}, veqL l l' = true → l = l'
  | [], [], _ => rfl
  | [], _ :: _, h => by cases h
  | _ :: _, [], h => by cases h
  | x :: l, y :: l', h => by
    unfold veqL at h
    split at h
    · rename_i e; rw [veq1_eq e, veqL_eq h]
    · cases h
def veq : Value → Value → Bool
  | .agg ⟨l⟩, .agg ⟨l'⟩ => veqL l l'
  | .tuple ⟨l⟩, .tuple ⟨l'⟩ => veqL l l'
  | .iface t x, .iface t' x' => match Nat.beq t t' with | true => veq1 x x' | false => false
  | x, y => veq1 x y
theorem veq_eq {x y : Value} (h : veq x y = true) : x = y := by
  unfold veq at h
  split at h
  · rw [veqL_eq h]
  · rw [veqL_eq h]
  · split at h
    · rename_i e; rw [Nat.eq_of_beq_eq_true e, veq1_eq h]
    · cases h
  · exact veq1_eq h

def rdOk1 (P : Program) (m : EM) (x : Rd) : Bool := match aqX P m.aw (evF x.2.1.fr) x.1 with | some u => veq u x.2.2 | none => false
def rdOk (P : Program) (m : EM) : List Rd → Bool
  | [] => true
  | x :: rs => match rdOk1 P m x with | true => rdOk P m rs | false => false
def rdsOk (P : Program) (rs : List Rd) : List EM → Bool
  | [] => true
  | m :: ms => match rdOk P m rs with | true => rdsOk P rs ms | false => false
theorem rdOk_all {P : Program} {m : EM} : ∀ {rs : List Rd}, rdOk P m rs = true → ∀ x ∈ rs, aq P m.aw (evF x.2.1.fr) x.1 = some x.2.2
  | [], _, x, hx => by cases hx
  | y :: rs, h, x, hx => by
    unfold rdOk at h
    split at h
    · rename_i h1
      rcases List.mem_cons.1 hx with e | e
      · subst e
        unfold rdOk1 at h1
        rw [aqX_eq] at h1
        split at h1
        · rename_i u hu; rw [hu, veq_eq h1]
        · cases h1
      · exact rdOk_all h x e
    · cases h
theorem rdsOk_all {P : Program} {rs : List Rd} : ∀ {ms : List EM}, rdsOk P rs ms = true → ∀ m ∈ ms, ∀ x ∈ rs, aq P m.aw (evF x.2.1.fr) x.1 = some x.2.2
  | [], _, m, hm => by cases hm
  | y :: ms, h, m, hm => by
    unfold rdsOk at h
    split at h
    · rename_i h1
      rcases List.mem_cons.1 hm with e | e
      · subst e; exact rdOk_all h1
      · exact rdsOk_all h m e
    · cases h

/-! ### Code -/

abbrev Ords := List (Nat × List (Nat × Nat))
def ordOf : Ords → Nat → Option (List (Nat × Nat))
  | [], _ => none
  | (k, l) :: rest, i => match Nat.beq k i with | true => some l | false => ordOf rest i

/-- Every region that draws has an order that serves. -/
def codeOrd (os : Ords) : Code → Bool
  | .region id ops true => match ordOf os id with | some ord => linB ops ord | none => false
  | .seq x y => codeOrd os x && codeOrd os y
  | .cond _ x y => codeOrd os x && codeOrd os y
  | .block _ b => codeOrd os b
  | .loop b => codeOrd os b
  | _ => true

def evC (P : Program) (os : Ords) (call : ECall) : Nat → Code → FT → EM → Option (Exit × FT × EM)
  | 0, _, _, _ => none
  | n + 1, c, a, m =>
    match c with
    | .skip => some (.normal, a, m)
    | .exit id => some (.exit id, a, m)
    | .ret => some (.ret, a, m)
    | .seq x y =>
      match evC P os call n x a m with
      | some (.normal, a', m') => evC P os call n y a' m'
      | r => r
    | .block id b =>
      match evC P os call n b a m with
      | some (.exit id', a', m') => match Nat.beq id' id with | true => some (.normal, a', m') | false => some (.exit id', a', m')
      | r => r
    | .cond c x y =>
      match evF a.fr c with
      | .bool true => evC P os call n x a m
      | .bool false => evC P os call n y a m
      | _ => none
    | .loop b =>
      match evC P os call n b a m with
      | some (.normal, a', m') => evC P os call n (.loop b) a' m'
      | r => r
    | .region id ops false =>
      match evOps P call ops ops.toList a m with
      | some (a', m') => some (.normal, a', m')
      | none => none
    | .region id ops true =>
      match ordOf os id with
      | some ord =>
        match evLin P call (lops ops ord) a m with
        | some (a', m', rs, ms) => match rdsOk P rs ms with | true => some (.normal, a', m') | false => none
        | none => none
      | none => none
    | _ => none

theorem evC_sound {P : Program} {os : Ords} {call : ECall} (hc : call.Ok P) (hmx : P.follows .mixedOrders = true) {nt : Nat} : ∀ (n : Nat) (c : Code) (a : FT) (m : EM) {e : Exit} {a' : FT} {m' : EM}, evC P os call n c a m = some (e, a', m') → codeOrd os c = true →
    ∀ {Q : Exit → Fr → AW → Prop}, Q e a'.fr m'.aw → AWP P nt c Q a.fr m.aw ∧ ∀ b, c = .loop b → ∃ k, ARounds P nt b Q k a.fr m.aw
  | 0, c, a, m, e, a', m', h, _, _, _ => by cases h
  | n + 1, c, a, m, e, a', m', h, ho, Q, hq => by
    unfold evC at h
    cases c with
    | skip =>
      simp only [Option.some.injEq, Prod.mk.injEq] at h
      obtain ⟨rfl, rfl, rfl⟩ := h
      exact ⟨awp_skip hq, fun b e => by cases e⟩
    | exit id =>
      simp only [Option.some.injEq, Prod.mk.injEq] at h
      obtain ⟨rfl, rfl, rfl⟩ := h
      exact ⟨awp_exit hq, fun b e => by cases e⟩
    | ret =>
      simp only [Option.some.injEq, Prod.mk.injEq] at h
      obtain ⟨rfl, rfl, rfl⟩ := h
      exact ⟨awp_ret hq, fun b e => by cases e⟩
    | seq x y =>
      refine ⟨awp_seq ?_, fun b e => by cases e⟩
      simp only [codeOrd, Bool.and_eq_true] at ho
      simp only at h
      split at h
      · rename_i a1 m1 h1
        exact (evC_sound hc hmx n x a m h1 ho.1 (Q := AThen (AWP P nt y Q) Q) (evC_sound hc hmx n y a1 m1 h ho.2 hq).1).1
      · rename_i r hr
        rw [h] at hr
        refine (evC_sound hc hmx n x a m h ho.1 (Q := AThen (AWP P nt y Q) Q) ?_).1
        cases e <;> first | exact hq | exact absurd rfl (hr _ _)
    | block id b =>
      refine ⟨awp_block ?_, fun b e => by cases e⟩
      simp only at h
      split at h
      · rename_i id' a1 m1 h1
        split at h
        · rename_i e1
          simp only [Option.some.injEq, Prod.mk.injEq] at h
          obtain ⟨rfl, rfl, rfl⟩ := h
          refine (evC_sound hc hmx n b a m h1 ho (Q := ABlock id Q) ?_).1
          simp only [ABlock]
          rw [if_pos (Nat.eq_of_beq_eq_true e1)]
          exact hq
        · rename_i e1
          simp only [Option.some.injEq, Prod.mk.injEq] at h
          obtain ⟨rfl, rfl, rfl⟩ := h
          refine (evC_sound hc hmx n b a m h1 ho (Q := ABlock id Q) ?_).1
          simp only [ABlock]
          rw [if_neg (fun e2 => by rw [beq_yes e2] at e1; cases e1)]
          exact hq
      · rename_i r hr
        refine (evC_sound hc hmx n b a m h ho (Q := ABlock id Q) ?_).1
        cases e <;> first | exact hq | exact absurd h (hr _ _ _)
    | cond c x y =>
      refine ⟨?_, fun b e => by cases e⟩
      simp only [codeOrd, Bool.and_eq_true] at ho
      simp only at h
      split at h
      · rename_i e1
        exact awp_cond e1 (fun _ => (evC_sound hc hmx n x a m h ho.1 hq).1) (fun e => by cases e)
      · rename_i e1
        exact awp_cond e1 (fun e => by cases e) (fun _ => (evC_sound hc hmx n y a m h ho.2 hq).1)
      · cases h
    | loop b =>
      have key : ∃ k, ARounds P nt b Q k a.fr m.aw := by
        simp only at h
        split at h
        · rename_i a1 m1 h1
          obtain ⟨k, hk⟩ := (evC_sound hc hmx n (.loop b) a1 m1 h ho hq).2 b rfl
          exact ⟨k + 1, (evC_sound hc hmx n b a m h1 ho (Q := AThen (ARounds P nt b Q k) Q) hk).1⟩
        · rename_i r hr
          refine ⟨1, (evC_sound hc hmx n b a m h ho (Q := AThen (ARounds P nt b Q 0) Q) ?_).1⟩
          cases e <;> first | exact hq | exact absurd h (hr _ _)
      obtain ⟨k, hk⟩ := key
      exact ⟨awp_rounds k hk, fun b' e => by injection e with e; subst e; exact ⟨k, hk⟩⟩
    | region id ops dr =>
      refine ⟨?_, fun b e => by cases e⟩
      cases dr with
      | false =>
        simp only at h
        split at h
        · rename_i a1 m1 h1
          simp only [Option.some.injEq, Prod.mk.injEq] at h
          obtain ⟨rfl, rfl, rfl⟩ := h
          exact awp_region (evOps_sound hc _ _ _ h1 hq)
        · cases h
      | true =>
        simp only [codeOrd] at ho
        simp only at h
        split at h
        · rename_i ord hor
          rw [hor] at ho
          split at h
          · rename_i a1 m1 rs ms h1
            split at h
            · rename_i hrd
              simp only [Option.some.injEq, Prod.mk.injEq] at h
              obtain ⟨rfl, rfl, rfl⟩ := h
              refine wlS (fun A' => ∀ x ∈ rs, aq P A' (evF x.2.1.fr) x.1 = some x.2.2) hmx ord ho fun K hK => ?_
              exact evLin_sound hc _ a m h1 (fun x hx A' hA' => hA' x hx) (fun m hm x hx => rdsOk_all hrd m hm x hx) (hK _ _ hq)
            · cases h
          · cases h
        · cases h
    | _ => cases h

/-! ### Calls -/

def putArgs {β : Sort _} : List Value → Nat → FT → (FT → β) → β
  | [], _, a, c => c a
  | v :: vs, i, a, c => fVal v fun v => fTr (a.put 24 (i + 1) (some v)) fun a => putArgs vs (i + 1) a c
theorem putArgs_eq {β : Sort _} {c : FT → β} : ∀ (vs : List Value) (i : Nat) (a : FT), i + vs.length ≤ 1000000 → ∃ a', putArgs vs i a c = c a' ∧ ∀ j, a'.fr j = if i ≤ j then (if j < i + vs.length then vs.getD (j - i) undef else a.fr j) else a.fr j
  | [], i, a, _ => ⟨a, rfl, fun j => by
      split
      · rw [if_neg (by simp; omega)]
      · rfl⟩
  | v :: vs, i, a, h => by
    simp only [List.length_cons] at h
    obtain ⟨a', h1, h2⟩ := putArgs_eq (c := c) vs (i + 1) (a.put 24 (i + 1) (some v)) (by omega)
    refine ⟨a', by rw [putArgs, fVal_eq, fTr_eq]; exact h1, fun j => ?_⟩
    rw [h2]
    have e : FT.fr (Tr.put 24 a (i + 1) (some v)) j = if j = i then v else a.fr j := by
      simp only [FT.fr]
      rw [Tr.get_put 24 a (i + 1) (some v) (j + 1) (by omega) (Nat.lt_of_le_of_lt (show i + 1 ≤ 1000001 by omega) (by decide)) (by omega)]
      by_cases e : j = i
      · subst e; simp
      · rw [if_neg (by omega), if_neg e]
    rw [e]
    simp only [List.length_cons]
    by_cases c1 : j = i
    · subst c1
      rw [if_neg (show ¬ j + 1 ≤ j by omega), if_pos rfl, if_pos (Nat.le_refl j), if_pos (show j < j + (vs.length + 1) by omega)]
      simp
    · by_cases c2 : i + 1 ≤ j
      · rw [if_pos c2, if_pos (show i ≤ j by omega)]
        by_cases c3 : j < i + 1 + vs.length
        · rw [if_pos c3, if_pos (show j < i + (vs.length + 1) by omega)]
          obtain ⟨q, rfl⟩ : ∃ q, j = i + 1 + q := ⟨j - (i + 1), by omega⟩
          rw [show i + 1 + q - (i + 1) = q by omega, show i + 1 + q - i = q + 1 by omega]
          simp
        · rw [if_neg c3, if_neg (show ¬ j < i + (vs.length + 1) by omega), if_neg c1]
      · rw [if_neg c2, if_neg (show ¬ i ≤ j by omega), if_neg c1]

abbrev ETab := List (Nat × Ords)
def tabOf : ETab → Nat → Option Ords
  | [], _ => none
  | (k, l) :: rest, i => match Nat.beq k i with | true => some l | false => tabOf rest i

def fnStat (fn : Func) (os : Ords) : Bool :=
  !(fn.name == "runtime.NumGoroutine") && fn.results.toList.all (resOk fn.ntmps) && (match fn.body with | some c => codeOk fn.ntmps c && codeOrd os c | none => false)
/-- What the evaluator needs to know of the functions, once. -/
def tabB (P : Program) : ETab → Bool
  | [] => true
  | (f, os) :: rest => (match P.funcs[f]? with | some fn => fnStat fn os | none => false) && tabB P rest
theorem tabB_of {P : Program} : ∀ {T : ETab}, tabB P T = true → ∀ {f os}, tabOf T f = some os → ∃ fn, P.funcs[f]? = some fn ∧ fnStat fn os = true
  | [], _, f, os, h => by cases h
  | (k, l) :: rest, hT, f, os, h => by
    simp only [tabB, Bool.and_eq_true] at hT
    unfold tabOf at h
    split at h
    · rename_i e
      have e := Nat.eq_of_beq_eq_true e
      subst e
      injection h with h
      subst h
      have h1 := hT.1
      split at h1
      · rename_i fn hfn; exact ⟨fn, hfn, h1⟩
      · cases h1
    · exact tabB_of hT.2 h

/-- base: calls whose outcome is known otherwise. -/
def evCall (P : Program) (T : ETab) (base : ECall) (N : Nat) : Nat → ECall
  | 0, _, _, _ => none
  | n + 1, f, args, m =>
    match tabOf T f with
    | none => base f args m
    | some os =>
      match P.funcs[f]? with
      | none => none
      | some fn =>
        match fn.body with
        | none => none
        | some c =>
          match Nat.ble args.length fn.ntmps with
          | false => none
          | true =>
            match Nat.ble args.length 1000 with
            | false => none
            | true => putArgs args 0 .nil fun a0 =>
              match evC P os (evCall P T base N n) N c a0 m with
              | some (.normal, a', m') =>
                match ares P a'.fr m'.aw fn.results.toList with
                | some v => fVal v fun v => some (v, m')
                | none => none
              | some (.ret, a', m') =>
                match ares P a'.fr m'.aw fn.results.toList with
                | some v => fVal v fun v => some (v, m')
                | none => none
              | _ => none

theorem evCall_sound {P : Program} {T : ETab} {base : ECall} (hbase : base.Ok P) (hT : tabB P T = true) (hmx : P.follows .mixedOrders = true) (N : Nat) : ∀ n, (evCall P T base N n).Ok P
  | 0 => fun f args m v m' h => by cases h
  | n + 1 => fun f args m v m' h => by
    have ih := evCall_sound hbase hT hmx N n
    unfold evCall at h
    split at h
    · exact hbase _ _ _ _ _ h
    · rename_i os hos
      obtain ⟨fn, hfn, hst⟩ := tabB_of hT hos
      rw [hfn] at h
      simp only at h
      split at h
      · cases h
      · rename_i c hb
        split at h
        · cases h
        · rename_i hle
          split at h
          · cases h
          · rename_i hle2
            have hle : args.length ≤ fn.ntmps := Nat.le_of_ble_eq_true hle
            have hle2 : args.length ≤ 1000 := Nat.le_of_ble_eq_true hle2
            simp only [fnStat, hb, Bool.and_eq_true] at hst
            obtain ⟨⟨hs1, hs2⟩, hs3, hs4⟩ := hst
            refine acall_of_awp hfn hb (by simp only [fnOk, hb, Bool.and_eq_true, decide_eq_true_eq]; exact ⟨⟨⟨hle, hs1⟩, hs2⟩, hs3⟩) ?_
            obtain ⟨a0, h1, h2⟩ := putArgs_eq (c := fun a0 => match evC P os (evCall P T base N n) N c a0 m with
              | some (.normal, a', m') =>
                match ares P a'.fr m'.aw fn.results.toList with
                | some v => fVal v fun v => some (v, m')
                | none => none
              | some (.ret, a', m') =>
                match ares P a'.fr m'.aw fn.results.toList with
                | some v => fVal v fun v => some (v, m')
                | none => none
              | _ => none) args 0 .nil (by omega)
            rw [h1] at h
            have hi : a0.fr = initF args := by
              funext j
              rw [h2, if_pos (Nat.zero_le _)]
              simp only [initF, Nat.zero_add, Nat.sub_zero]
              split
              · rfl
              · rename_i hj
                rw [List.getD_eq_getElem?_getD, List.getElem?_eq_none (by omega)]
                rfl
            rw [← hi]
            split at h
            · rename_i a1 m1 h3
              split at h
              · rename_i u hu
                rw [fVal_eq] at h
                simp only [Option.some.injEq, Prod.mk.injEq] at h
                obtain ⟨rfl, rfl⟩ := h
                exact (evC_sound ih hmx N c a0 m h3 hs4 ⟨u, hu, rfl, rfl⟩).1
              · cases h
            · rename_i a1 m1 h3
              split at h
              · rename_i u hu
                rw [fVal_eq] at h
                simp only [Option.some.injEq, Prod.mk.injEq] at h
                obtain ⟨rfl, rfl⟩ := h
                exact (evC_sound ih hmx N c a0 m h3 hs4 ⟨u, hu, rfl, rfl⟩).1
              · cases h
            · cases h

def noCalls : ECall := fun _ _ _ => none
theorem noCalls_ok {P : Program} : noCalls.Ok P := fun f args m v m' h => by cases h
/-- A call without arguments says yes. -/
def evTrue (P : Program) (T : ETab) (base : ECall) (n : Nat) (f : FuncId) : Bool := match evCall P T base 1000000 200 f [] (EM.empty n) with | some (.bool true, _) => true | _ => false
theorem evTrue_sound {P : Program} {T : ETab} {base : ECall} (hbase : base.Ok P) (hT : tabB P T = true) (hmx : P.follows .mixedOrders = true) {n : Nat} (hn : Gl.N = n) {f : FuncId} (h : evTrue P T base n f = true) : ACall P f [] AW.empty fun v _ => v = .bool true := by
  unfold evTrue at h
  split at h
  · rename_i m' h1
    have h2 := evCall_sound hbase hT hmx _ _ _ _ _ _ _ h1
    rw [EM.empty_aw hn] at h2
    exact h2.mono fun v A' e => e.1
  · cases h

theorem evC_awp {P : Program} {os : Ords} {call : ECall} (hc : call.Ok P) (hmx : P.follows .mixedOrders = true) {nt n : Nat} {c : Code} {a : FT} {m : EM} {e : Exit} {a' : FT} {m' : EM} (h : evC P os call n c a m = some (e, a', m')) (ho : codeOrd os c = true)
    {Q : Exit → Fr → AW → Prop} (hq : Q e a'.fr m'.aw) : AWP P nt c Q a.fr m.aw := (evC_sound hc hmx n c a m h ho hq).1
theorem FT.put_fr {a : FT} {i : Nat} {v : Value} (hi : Nat.ble i 1000000 = true) : FT.fr (a.put 24 (i + 1) (some v)) = putF a.fr (some i) v := by
  obtain ⟨a', h1, h2⟩ := putT_eq (a := a) (d := some i) (v := v) (c := id) hi
  simp only [putT, fTr_eq, id] at h1
  rw [h1, h2]

/-- A call without arguments that looks at nothing but variables, from any memory: nothing turns. -/
theorem ACall.closed {P : Program} {f : FuncId} {R : Value → Prop} (h : ACall P f [] AW.empty fun v _ => R v) (hR : ∀ v, R v → scalarV v = true) (A : AW) : ACall P f [] A fun v A' => R v ∧ A' = A := by
  refine ⟨h.1, fun m w cargs hs hl => ?_⟩
  have hl2 : LRel Mp.empty [] cargs.toList := by rw [hl.inv_nil]; exact .nil
  refine (h.2 Mp.empty w cargs (Sim.empty w hs.laid) hl2).mono ?_
  rintro e w' ⟨v, v', m', A', rfl, ev, hv, hr⟩
  have e1 := hv.eq_of_scalar (hR v hr)
  subst e1
  refine ⟨v', v', m, A, rfl, Kept.evo hs ⟨fun b hb => ev.out b hb ?_, ev.os, ev.tape, ev.output, ev.size⟩, .of_scalar (hR v' hr) m, hr, rfl⟩
  rintro ⟨i, o, p, hi, _⟩
  cases hi

theorem lrel_scalars {m m' : Mp} {l l' : List Value} (h : LRel m l l') (hs : ∀ v ∈ l, scalarV v = true) : LRel m' l l' := by
  refine ⟨h.1, fun i v v' h1 h2 => ?_⟩
  have hv := hs v (List.mem_of_getElem? h1)
  rw [(h.2 i v v' h1 h2).eq_of_scalar hv]
  exact .of_scalar hv m'

/-- The same for a call whose arguments are plain. -/
theorem ACall.closedArgs {P : Program} {f : FuncId} {args : List Value} {R : Value → Prop} (hs : ∀ v ∈ args, scalarV v = true) (h : ACall P f args AW.empty fun v _ => R v) (hR : ∀ v, R v → scalarV v = true) (A : AW) :
    ACall P f args A fun v A' => R v ∧ A' = A := by
  refine ⟨h.1, fun m w cargs hs0 hl => ?_⟩
  refine (h.2 Mp.empty w cargs (Sim.empty w hs0.laid) (lrel_scalars hl hs)).mono ?_
  rintro e w' ⟨v, v', m', A', rfl, ev, hv, hr⟩
  have e1 := hv.eq_of_scalar (hR v hr)
  subst e1
  refine ⟨v', v', m, A, rfl, Kept.evo hs0 ⟨fun b hb => ev.out b hb ?_, ev.os, ev.tape, ev.output, ev.size⟩, .of_scalar (hR v' hr) m, hr, rfl⟩
  rintro ⟨i, o, p, hi, _⟩
  cases hi

/-- The value that a call with plain arguments returns, as the kernel computes it. -/
def evVal (P : Program) (T : ETab) (base : ECall) (n : Nat) (f : FuncId) (args : List Value) : Option Value := match evCall P T base 1000000 200 f args (EM.empty n) with | some (v, _) => some v | none => none
theorem evVal_call {P : Program} {T : ETab} {base : ECall} (hbase : base.Ok P) (hT : tabB P T = true) (hmx : P.follows .mixedOrders = true) {n : Nat} (hn : Gl.N = n) {f : FuncId} {args : List Value} {v : Value}
    (h : evVal P T base n f args = some v) (hs : ∀ x ∈ args, scalarV x = true) (hv : scalarV v = true) (A : AW) : ACall P f args A fun u A' => u = v ∧ A = A' := by
  unfold evVal at h
  split at h
  · rename_i u m' h1
    injection h with h
    subst h
    have h2 := evCall_sound hbase hT hmx _ _ _ _ _ _ _ h1
    rw [EM.empty_aw hn] at h2
    exact (ACall.closedArgs hs (h2.mono fun v A' e => e.1) (fun x e => by rw [e]; exact hv) A).mono fun x A' e => ⟨e.1, e.2.symm⟩
  · cases h

end
end Go.Stx
