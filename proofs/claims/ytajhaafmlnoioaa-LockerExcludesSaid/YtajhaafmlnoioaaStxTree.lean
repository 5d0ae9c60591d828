/-
  Regions that draw their order, where two operations that write may come up in either order: both orders are walked.
-/
import Derived.Test.YtajhaafmlnoioaaStxWalk
namespace Go.Stx
open Go
set_option linter.unusedVariables false

inductive OTree where
  | nil
  | one (i : Nat) (t : OTree)
  | two (i : Nat) (t : OTree) (j : Nat) (t' : OTree)

inductive LTree where
  | nil
  | one (o : LOp) (t : LTree)
  | two (o : LOp) (t : LTree) (o' : LOp) (t' : LTree)

def tlop (ops : Array Oper) (md : List Nat) (i : Nat) : LOp := match ops[i]? with
  | some o => ⟨o.dst, o.op, slimG ops o.guard, md.getD i 3⟩
  | none => ⟨none, .alloc 0, none, 3⟩
def ltree (ops : Array Oper) (md : List Nat) : OTree → LTree
  | .nil => .nil
  | .one i t => .one (tlop ops md i) (ltree ops md t)
  | .two i t j t' => .two (tlop ops md i) (ltree ops md t) (tlop ops md j) (ltree ops md t')

def LHead (P : Program) (S : AW → Prop) (o : LOp) (a : Fr) (A : AW) (R : Fr → AW → Prop) : Prop :=
  if sg a o.guard = true then
    match o.mode with
    | 0 => AqK P A (evF a) o.op fun v => R (putF a o.dst v) A
    | 1 => AqK P A (evF a) o.op fun v => (∀ A', S A' → aq P A' (evF a) o.op = some v) ∧ R (putF a o.dst v) A
    | 2 => AStep P o.op (evF a) A fun v A' => A.le A' ∧ R (putF a o.dst v) A'
    | _ => AStep P o.op (evF a) A fun v A' => S A' ∧ R (putF a o.dst v) A'
  else R (putF a o.dst undef) A

def TW (P : Program) (S : AW → Prop) (K : Fr → AW → Prop) : LTree → Fr → AW → Prop
  | .nil, a, A => K a A
  | .one o t, a, A => LHead P S o a A (TW P S K t)
  | .two o t o' t', a, A => LHead P S o a A (TW P S K t) ∧ LHead P S o' a A (TW P S K t')

section
variable {P : Program} {ops : Array Oper} {S : AW → Prop} {K : Fr → AW → Prop} {anc : List Nat}

def tforcedB (ops : Array Oper) (anc md : List Nat) (M i : Nat) : Bool := (List.range ops.size).all fun j => j == i || M.testBit j || !(Nat.ble 3 (md.getD j 3)) || (anc.getD j 0).testBit i
def onlyB (ops : Array Oper) (M i j : Nat) : Bool := (List.range ops.size).all fun k => k == i || k == j || match ops[k]? with
  | some o => !readyB M k o
  | none => true
def effOk (ops : Array Oper) (md : List Nat) (M i : Nat) : Bool := match ops[i]? with
  | some o => readyB M i o && !(Nat.ble (md.getD i 3) 1)
  | none => false

def treeGo (ops : Array Oper) (anc md : List Nat) : Nat → OTree → Bool
  | M, .nil => (List.range ops.size).all fun j => M.testBit j
  | M, .one i t => (match ops[i]? with
      | none => false
      | some o => readyB M i o && (if Nat.ble (md.getD i 3) 1 then freeB ops M i o && (Nat.beq (md.getD i 3) 1 || memless o.op || tforcedB ops anc md M i) else onlyB ops M i i)) && treeGo ops anc md (M ||| 2 ^ i) t
  | M, .two i t j t' => effOk ops md M i && effOk ops md M j && onlyB ops M i j && treeGo ops anc md (M ||| 2 ^ i) t && treeGo ops anc md (M ||| 2 ^ j) t'

def treeB (ops : Array Oper) (md : List Nat) (t : OTree) : Bool := aheadOk ops && (let anc := ancL ops.toList []; ancOk ops anc && treeGo ops anc md 0 t)

def depth : OTree → Nat
  | .nil => 0
  | .one _ t => depth t + 1
  | .two _ t _ t' => max (depth t) (depth t') + 1

theorem aany_succ {md : Nat → Nat} : ∀ {n : Nat} {L : Nat → Bool} {a : Fr} {A : AW}, AAny P ops S md K n L a A → AAny P ops S md K (n + 1) L a A
  | 0, L, a, A, h => ⟨fun _ => h.2, fun _ i o ho hr => by have := h.1 i (Array.getElem?_eq_some_iff.1 ho).1; rw [hr.1] at this; cases this⟩
  | n + 1, L, a, A, h => ⟨h.1, fun hw i o ho hr => (h.2 hw i o ho hr).mono fun v A' _ _ _ _ hk => aany_succ hk⟩
theorem aany_le {md : Nat → Nat} {n m : Nat} (hnm : n ≤ m) {L : Nat → Bool} {a : Fr} {A : AW} (h : AAny P ops S md K n L a A) : AAny P ops S md K m L a A := by
  induction hnm with
  | refl => exact h
  | step _ ih => exact aany_succ ih

theorem lhead_lstp {md : List Nat} {i : Nat} {o : Oper} (hi : ops[i]? = some o) (hm : ¬ md.getD i 3 ≤ 1) {a : Fr} {A : AW} {R : Fr → AW → Prop} (h : LHead P S (tlop ops md i) a A R) : LStp P ops S (fun j => md.getD j 3) i o a A R := by
  simp only [LHead, tlop, hi, ← sg_eq] at h
  unfold LStp
  split
  · rename_i hg
    rw [if_pos hg] at h
    by_cases h2 : md.getD i 3 = 2
    · rw [h2] at h
      exact h.mono fun v A' hh => ⟨by rw [if_pos h2]; exact hh.1, hh.2⟩
    · have : ∃ q, md.getD i 3 = q + 3 := ⟨md.getD i 3 - 3, by omega⟩
      obtain ⟨q, hq⟩ := this
      rw [hq] at h
      exact h.mono fun v A' hh => ⟨by rw [if_neg h2]; exact hh.1, hh.2⟩
  · rename_i hg
    rw [if_neg hg] at h
    exact h

theorem setL_mask {L : Nat → Bool} {M i : Nat} (hL : ∀ j, j < ops.size → L j = M.testBit j) : ∀ j, j < ops.size → setL L i j = (M ||| 2 ^ i).testBit j := fun j hj => by
  rw [Nat.testBit_or, Nat.testBit_two_pow, ← hL j hj]
  unfold setL
  by_cases e : j = i
  · subst e; simp
  · have : ¬ i = j := fun x => e x.symm
    simp [e, this]

theorem aany_of_tree (hah : aheadOk ops = true) (ha : ancOk ops anc = true) {md : List Nat} : ∀ (t : OTree) (M : Nat) (L : Nat → Bool) (a : Fr) (A : AW), (∀ j, j < ops.size → L j = M.testBit j) → Closed ops L →
    treeGo ops anc md M t = true → TW P S K (ltree ops md t) a A → AAny P ops S (fun j => md.getD j 3) K (depth t) L a A
  | .nil, M, L, a, A, hL, hc, hg, h => ⟨fun j hj => by rw [hL j hj]; exact List.all_eq_true.1 hg j (List.mem_range.2 hj), h⟩
  | .two i t j t', M, L, a, A, hL, hc, hg, h => by
    simp only [treeGo, Bool.and_eq_true] at hg
    obtain ⟨⟨⟨⟨hei, hej⟩, hon⟩, hgi⟩, hgj⟩ := hg
    have eff : ∀ {k : Nat}, effOk ops md M k = true → ∃ o, ops[k]? = some o ∧ Rdy L k o ∧ ¬ md.getD k 3 ≤ 1 := fun {k} hk => by
      unfold effOk at hk
      cases ho : ops[k]? with
      | none => rw [ho] at hk; cases hk
      | some o =>
        rw [ho] at hk
        simp only [Bool.and_eq_true, Bool.not_eq_true'] at hk
        refine ⟨o, rfl, (readyB_spec (Array.getElem?_eq_some_iff.1 ho).1 hah ho hL).1 hk.1, fun hle => ?_⟩
        rw [Nat.ble_eq_true_of_le hle] at hk
        exact absurd hk.2 (by simp)
    obtain ⟨oi, hi, hri, hmi⟩ := eff hei
    obtain ⟨oj, hj, hrj, hmj⟩ := eff hej
    refine ⟨fun hall => ?_, fun hw k ok hk hrk => ?_⟩
    · have := hall i (Array.getElem?_eq_some_iff.1 hi).1
      rw [hri.1] at this
      cases this
    · have hkij : k = i ∨ k = j := by
        have h1 := List.all_eq_true.1 hon k (List.mem_range.2 (Array.getElem?_eq_some_iff.1 hk).1)
        rw [hk] at h1
        simp only [Bool.or_eq_true, beq_iff_eq, Bool.not_eq_true'] at h1
        rcases h1 with (h1 | h1) | h1
        · exact .inl h1
        · exact .inr h1
        · rw [(readyB_spec (Array.getElem?_eq_some_iff.1 hk).1 hah hk hL).2 hrk] at h1
          cases h1
      rcases hkij with e | e
      · subst e
        rw [hi] at hk
        injection hk with hk
        subst hk
        exact (lhead_lstp hi hmi h.1).mono fun v A' _ _ _ _ hh => aany_le (Nat.le_max_left _ _) (aany_of_tree hah ha t _ _ _ A' (setL_mask hL) (hc.set hi hri) hgi hh)
      · subst e
        rw [hj] at hk
        injection hk with hk
        subst hk
        exact (lhead_lstp hj hmj h.2).mono fun v A' _ _ _ _ hh => aany_le (Nat.le_max_right _ _) (aany_of_tree hah ha t' _ _ _ A' (setL_mask hL) (hc.set hj hrj) hgj hh)
  | .one i t, M, L, a, A, hL, hc, hg, h => by
    unfold treeGo at hg
    rw [Bool.and_eq_true] at hg
    obtain ⟨hg1, hg2⟩ := hg
    cases hi : ops[i]? with
    | none => rw [hi] at hg1; cases hg1
    | some o =>
      rw [hi] at hg1
      simp only [Bool.and_eq_true] at hg1
      obtain ⟨hr, hcls⟩ := hg1
      have hil := (Array.getElem?_eq_some_iff.1 hi).1
      have hrd : Rdy L i o := (readyB_spec hil hah hi hL).1 hr
      have hc' := hc.set hi hrd
      have IH : ∀ a A, TW P S K (ltree ops md t) a A → AAny P ops S (fun j => md.getD j 3) K (depth t) (setL L i) a A := fun a A h => aany_of_tree hah ha t (M ||| 2 ^ i) _ a A (setL_mask hL) hc' hg2 h
      by_cases hm1 : md.getD i 3 ≤ 1
      · rw [if_pos (by simpa [Nat.ble_eq] using hm1)] at hcls
        simp only [Bool.and_eq_true] at hcls
        obtain ⟨hfr, hst⟩ := hcls
        have hfree : ∀ j oj, ops[j]? = some oj → j ≠ i → L j = false → (∀ e ∈ oj.after, Region.binds .any e = true → e.on ≠ i) → o.apart ops oj = true := fun j oj hj hji hLj hno => by
          have hjl := (Array.getElem?_eq_some_iff.1 hj).1
          have h1 := List.all_eq_true.1 hfr j (List.mem_range.2 hjl)
          rw [hj, ← hL j hjl, hLj] at h1
          simp only [Bool.or_eq_true, beq_iff_eq, Bool.false_eq_true, or_false] at h1
          rcases h1 with h1 | h1 | h1
          · exact absurd h1 hji
          · exfalso
            rw [Array.any_eq_true] at h1
            obtain ⟨q, hq, h2⟩ := h1
            simp only [Bool.and_eq_true, beq_iff_eq] at h2
            exact hno _ (Array.getElem_mem hq) h2.1 h2.2
          · exact h1
        have fin : ∀ v, ((gval ops a o = true ∧ aq P A (evF a) o.op = some v) ∨ (gval ops a o = false ∧ v = undef)) → (md.getD i 3 = 1 → gval ops a o = true → ∀ A', S A' → aq P A' (evF a) o.op = some v) →
            TW P S K (ltree ops md t) (putF a o.dst v) A → AAny P ops S (fun j => md.getD j 3) K (depth t + 1) L a A := by
          intro v hy hS hk
          refine aany_first (md := fun j => md.getD j 3) hah ha hi hm1 (depth t) L a A hc hfree ?_ hrd hy (IH _ _ hk)
          simp only [Bool.or_eq_true] at hst
          rcases hst with (h1 | h1) | h1
          · exact .inr (.inr fun A' hA' hgv => hS (Nat.eq_of_beq_eq_true h1) hgv A' hA')
          · exact .inl h1
          · refine .inr (.inl fun j oj hj hji h3 hLj => ?_)
            have hjl := (Array.getElem?_eq_some_iff.1 hj).1
            have h2 := List.all_eq_true.1 h1 j (List.mem_range.2 hjl)
            rw [← hL j hjl, hLj] at h2
            have hb3 : Nat.ble 3 (md.getD j 3) = true := Nat.ble_eq_true_of_le h3
            rw [hb3] at h2
            simpa [hji] using h2
        have h' : LHead P S (tlop ops md i) a A (TW P S K (ltree ops md t)) := h
        simp only [LHead, tlop, hi, ← sg_eq] at h'
        split at h'
        · rename_i hgv
          have : md.getD i 3 = 0 ∨ md.getD i 3 = 1 := by omega
          rcases this with e | e
          · rw [e] at h'
            simp only [AqK] at h'
            split at h'
            · rename_i v hv
              exact fin v (.inl ⟨hgv, hv⟩) (fun e' => by omega) h'
            · exact h'.elim
          · rw [e] at h'
            simp only [AqK] at h'
            split at h'
            · rename_i v hv
              exact fin v (.inl ⟨hgv, hv⟩) (fun _ _ => h'.1) h'.2
            · exact h'.elim
        · rename_i hgv
          have hgv' : gval ops a o = false := by simpa using hgv
          exact fin undef (.inr ⟨hgv', rfl⟩) (fun _ e => by rw [hgv'] at e; cases e) h'
      · rw [if_neg (by simpa [Nat.ble_eq] using hm1)] at hcls
        refine ⟨fun hall => ?_, fun hw j oj hj hrj => ?_⟩
        · have := hall i hil
          rw [hrd.1] at this
          cases this
        · have hji : j = i := by
            have h1 := List.all_eq_true.1 hcls j (List.mem_range.2 (Array.getElem?_eq_some_iff.1 hj).1)
            rw [hj] at h1
            simp only [Bool.or_eq_true, beq_iff_eq, Bool.not_eq_true'] at h1
            rcases h1 with (h1 | h1) | h1
            · exact h1
            · exact h1
            · rw [(readyB_spec (Array.getElem?_eq_some_iff.1 hj).1 hah hj hL).2 hrj] at h1
              cases h1
          subst hji
          rw [hi] at hj
          injection hj with hj
          subst hj
          exact (lhead_lstp hi hm1 h).mono fun v A' _ _ _ _ hh => IH _ _ hh

end

theorem wt {P : Program} {n : Nat} {Q : Exit → Fr → AW → Prop} {a : Fr} {A : AW} {id : Nat} {ops : Array Oper} (S : AW → Prop) (hm : P.follows .mixedOrders = true) (md : List Nat) (t : OTree) (hB : treeB ops md t = true)
    (h : ∀ K : Fr → AW → Prop, (∀ a A, Q .normal a A → K a A) → TW P S K (ltree ops md t) a A) : AWP P n (.region id ops true) Q a A := by
  simp only [treeB, Bool.and_eq_true] at hB
  exact awp_of_aany hm hB.1 (aany_of_tree hB.1 hB.2.1 t 0 _ a A (fun j _ => by simp) (fun k o _ hk => by cases hk) hB.2.2 (h _ fun _ _ h => h))

theorem twc {P : Program} {S : AW → Prop} {K : Fr → AW → Prop} {o : LOp} {t : LTree} {a : Fr} {A : AW} (h : ∀ R : Fr → AW → Prop, (∀ a A, TW P S K t a A → R a A) → LHead P S o a A R) : TW P S K (.one o t) a A := h _ fun _ _ h => h
theorem tw2 {P : Program} {S : AW → Prop} {K : Fr → AW → Prop} {o o' : LOp} {t t' : LTree} {a : Fr} {A : AW} (h : ∀ R : Fr → AW → Prop, (∀ a A, TW P S K t a A → R a A) → LHead P S o a A R)
    (h' : ∀ R : Fr → AW → Prop, (∀ a A, TW P S K t' a A → R a A) → LHead P S o' a A R) : TW P S K (.two o t o' t') a A := ⟨h _ fun _ _ h => h, h' _ fun _ _ h => h⟩
theorem twn {P : Program} {S : AW → Prop} {K : Fr → AW → Prop} {a : Fr} {A : AW} (h : K a A) : TW P S K .nil a A := h
attribute [simp] LHead

end Go.Stx
