/-
  The rules of a walk under short names.
-/
import Derived.Test.YtajhaafmlnoioaaStxLin2
import Derived.Test.YtajhaafmlnoioaaStxMapH
namespace Go.Stx
open Go
set_option linter.unusedVariables false

/-- The operations of a region that draws no order. -/
def nop (ops : Array Oper) (o : Oper) : LOp := ⟨o.dst, o.op, slimG ops o.guard, 3⟩
def nops (ops : Array Oper) : List LOp := ops.toList.map (nop ops)

theorem lwalk_of_aops {P : Program} {ops : Array Oper} {K : Fr → AW → Prop} : ∀ (l : List Oper) (a : Fr) (A : AW), LWalk P (fun _ => True) K (l.map (nop ops)) a A → AOps P ops K l a A
  | [], a, A, h => h
  | o :: rest, a, A, h => by
    simp only [List.map_cons, LWalk, nop] at h
    simp only [AOps, sg_eq]
    split
    · rename_i hg
      rw [if_pos hg] at h
      exact h.mono fun v A' hh => lwalk_of_aops rest _ _ hh.2
    · rename_i hg
      rw [if_neg hg] at h
      exact lwalk_of_aops rest _ _ h

section
variable {P : Program} {n : Nat} {Q : Exit → Fr → AW → Prop} {a : Fr} {A : AW} {id : Nat}

theorem wn {ops : Array Oper} (h : ∀ K : Fr → AW → Prop, (∀ a A, Q .normal a A → K a A) → LWalk P (fun _ => True) K (nops ops) a A) : AWP P n (.region id ops false) Q a A :=
  awp_region (lwalk_of_aops _ _ _ (h _ fun _ _ h => h))
theorem wl {ops : Array Oper} (hm : P.follows .mixedOrders = true) (ord : List (Nat × Nat)) (hB : linB ops ord = true)
    (h : ∀ K : Fr → AW → Prop, (∀ a A, Q .normal a A → K a A) → LWalk P (fun _ => True) K (lops ops ord) a A) : AWP P n (.region id ops true) Q a A := awp_l1 _ ord hm hB h
theorem wlS {ops : Array Oper} (S : AW → Prop) (hm : P.follows .mixedOrders = true) (ord : List (Nat × Nat)) (hB : linB ops ord = true)
    (h : ∀ K : Fr → AW → Prop, (∀ a A, Q .normal a A → K a A) → LWalk P S K (lops ops ord) a A) : AWP P n (.region id ops true) Q a A := awp_l1 S ord hm hB h
end

theorem lwc {P : Program} {S : AW → Prop} {K : Fr → AW → Prop} {o : LOp} {rest : List LOp} {a : Fr} {A : AW}
    (h : ∀ R : Fr → AW → Prop, (∀ a A, LWalk P S K rest a A → R a A) →
      if sg a o.guard = true then
        match o.mode with
        | 0 => AqK P A (evF a) o.op fun v => R (putF a o.dst v) A
        | 1 => AqK P A (evF a) o.op fun v => (∀ A', S A' → aq P A' (evF a) o.op = some v) ∧ R (putF a o.dst v) A
        | 2 => AStep P o.op (evF a) A fun v A' => A.le A' ∧ R (putF a o.dst v) A'
        | _ => AStep P o.op (evF a) A fun v A' => S A' ∧ R (putF a o.dst v) A'
      else R (putF a o.dst undef) A) : LWalk P S K (o :: rest) a A := lwalk_cons h
theorem lwn {P : Program} {S : AW → Prop} {K : Fr → AW → Prop} {a : Fr} {A : AW} (h : K a A) : LWalk P S K [] a A := h
theorem lr {A : AW} {p : Prop} (h : p) : A.le A ∧ p := ⟨AW.le.refl A, h⟩
theorem la {A : AW} {o : AObj} {p : Prop} (h : p) : A.le (A.alloc o) ∧ p := ⟨AW.le.alloc A o, h⟩
theorem wb {P : Program} {n : Nat} {Q : Exit → Fr → AW → Prop} {a : Fr} {A : AW} {id : Nat} {c : Code} (h : AWP P n c (ABlock id Q) a A) : AWP P n (.block id c) Q a A := awp_block h
theorem wq {P : Program} {n : Nat} {Q : Exit → Fr → AW → Prop} {a : Fr} {A : AW} {x y : Code} (h : AWP P n x (AThen (AWP P n y Q) Q) a A) : AWP P n (.seq x y) Q a A := awp_seq h
theorem wr {P : Program} {n : Nat} {Q : Exit → Fr → AW → Prop} {a : Fr} {A : AW} (h : Q .ret a A) : AWP P n .ret Q a A := awp_ret h
theorem wk {P : Program} {n : Nat} {Q : Exit → Fr → AW → Prop} {a : Fr} {A : AW} (h : Q .normal a A) : AWP P n .skip Q a A := awp_skip h
theorem we {P : Program} {n : Nat} {Q : Exit → Fr → AW → Prop} {a : Fr} {A : AW} {id : Nat} (h : Q (.exit id) a A) : AWP P n (.exit id) Q a A := awp_exit h
theorem wc {P : Program} {n : Nat} {Q : Exit → Fr → AW → Prop} {a : Fr} {A : AW} {c : Operand} {x y : Code} {b : Bool} (hc : evF a c = .bool b) (h1 : b = true → AWP P n x Q a A) (h2 : b = false → AWP P n y Q a A) :
    AWP P n (.cond c x y) Q a A := awp_cond hc h1 h2
theorem ws {P : Program} {n : Nat} {c : Code} {Q : Exit → Fr → AW → Prop} {a : Fr} {A : AW} {k : Nat} (h : AWP P n c (AThen (ARounds P n c Q k) Q) a A) : ARounds P n c Q (k + 1) a A := h
theorem ib {c : Prop} [Decidable c] {p q : Prop} (h1 : c → p) (h2 : ¬c → q) : if c then p else q := ite_both h1 h2

attribute [simp] AW.get_alloc AW.get_set Value.oneCell'

end Go.Stx
