/-
  The rule for regions that draw their order: one walk, in an order of ours.
-/
import Derived.Test.YtajhaafmlnoioaaStxLin
namespace Go.Stx
open Go
set_option linter.unusedVariables false

section
variable {P : Program} {ops : Array Oper} {S : AW → Prop} {md : Nat → Nat} {K : Fr → AW → Prop} {anc : List Nat}

def LStp (P : Program) (ops : Array Oper) (S : AW → Prop) (md : Nat → Nat) (i : Nat) (o : Oper) (a : Fr) (A : AW) (k : Fr → AW → Prop) : Prop :=
  if gval ops a o = true then
    if md i ≤ 1 then ∃ v, aq P A (evF a) o.op = some v ∧ k (putF a o.dst v) A
    else AStep P o.op (evF a) A fun v A' => (if md i = 2 then A.le A' else S A') ∧ k (putF a o.dst v) A'
  else k (putF a o.dst undef) A

def Rdy (L : Nat → Bool) (i : Nat) (o : Oper) : Prop := L i = false ∧ ∀ e ∈ o.after, Region.binds .any e = true → L e.on = true
def setL (L : Nat → Bool) (i : Nat) : Nat → Bool := fun j => if j = i then true else L j

def AAny (P : Program) (ops : Array Oper) (S : AW → Prop) (md : Nat → Nat) (K : Fr → AW → Prop) : Nat → (Nat → Bool) → Fr → AW → Prop
  | 0, L, a, A => (∀ i, i < ops.size → L i = true) ∧ K a A
  | n + 1, L, a, A => ((∀ i, i < ops.size → L i = true) → K a A) ∧ (A.Wf → ∀ i o, ops[i]? = some o → Rdy L i o → LStp P ops S md i o a A (AAny P ops S md K n (setL L i)))

theorem LStp.mono {i : Nat} {o : Oper} {a : Fr} {A : AW} {k k' : Fr → AW → Prop} (h : LStp P ops S md i o a A k)
    (hk : ∀ v A', (md i ≤ 1 → A' = A) → (md i = 2 → A.le A') → (3 ≤ md i → gval ops a o = true → S A') → (gval ops a o = false → A' = A) → k (putF a o.dst v) A' → k' (putF a o.dst v) A') : LStp P ops S md i o a A k' := by
  unfold LStp at *
  split
  · rename_i hg
    rw [if_pos hg] at h
    split
    · rename_i hm
      rw [if_pos hm] at h
      obtain ⟨v, h1, h2⟩ := h
      exact ⟨v, h1, hk v A (fun _ => rfl) (fun e => by omega) (fun e => by omega) (fun _ => rfl) h2⟩
    · rename_i hm
      rw [if_neg hm] at h
      refine h.mono fun v A' ⟨h1, h2⟩ => ⟨h1, hk v A' (fun e => by omega) (fun e => ?_) (fun e _ => ?_) (fun e => ?_) h2⟩
      · rwa [if_pos e] at h1
      · rwa [if_neg (by omega)] at h1
      · rw [e] at hg; cases hg
  · rename_i hg
    rw [if_neg hg] at h
    have hg' : gval ops a o = false := by simpa using hg
    exact hk undef A (fun _ => rfl) (fun _ => AW.le.refl A) (fun _ e => by rw [e] at hg'; cases hg') (fun _ => rfl) h

theorem LStp.aop1 {i : Nat} {o : Oper} {a : Fr} {A : AW} {k : Fr → AW → Prop} (h : LStp P ops S md i o a A k) : AOp1 P ops o a A k := by
  unfold LStp at h
  unfold AOp1
  split
  · rename_i hg
    rw [if_pos hg] at h
    split at h
    · obtain ⟨v, h1, h2⟩ := h
      simp only [AStep, h1]
      exact h2
    · exact h.mono fun v A' hh => hh.2
  · rename_i hg
    rw [if_neg hg] at h
    exact h

theorem awp_of_aany {n : Nat} {Q : Exit → Fr → AW → Prop} {a : Fr} {A : AW} {id : Nat} (hm : P.follows .mixedOrders = true) (hah : aheadOk ops = true) {k : Nat}
    (h : AAny P ops S md (Q .normal) k (fun _ => false) a A) : AWP P n (.region id ops true) Q a A := by
  refine awp_any hm hah (fun L a A => ∃ k, AAny P ops S md (Q .normal) k L a A) ⟨k, h⟩ ?_ ?_
  · rintro L a A i o hw ⟨k, hk⟩ ho hL hdep
    cases k with
    | zero =>
      have := hk.1 i (Array.getElem?_eq_some_iff.1 ho).1
      rw [hL] at this
      cases this
    | succ k =>
      have := (hk.2 hw i o ho ⟨hL, hdep⟩).aop1
      unfold AOp1 at this ⊢
      split
      · rename_i hg
        rw [if_pos hg] at this
        exact this.mono fun v A' hh => ⟨k, hh⟩
      · rename_i hg
        rw [if_neg hg] at this
        exact ⟨k, this⟩
  · rintro L a A _ ⟨k, hk⟩ hall
    cases k with
    | zero => exact hk.2
    | succ k => exact hk.1 hall

/-! ### What one operation sees of another -/

theorem evF_put {a : Fr} {d : Option Tmp} {v : Value} {x : Operand} (h : ∀ t, d = some t → x ≠ .tmp t) : evF (putF a d v) x = evF a x := by
  cases d with
  | none => rfl
  | some t =>
    cases x with
    | tmp q =>
      have : q ≠ t := fun e => h t rfl (by rw [e])
      simp [putF, upd, this]
    | _ => rfl

theorem gval_put {a : Fr} {d : Option Tmp} {v : Value} {o : Oper} (h : ∀ t, d = some t → t ∉ o.looksAt ops) : gval ops (putF a d v) o = gval ops a o := by
  unfold gval
  cases hg : o.guard with
  | none => rfl
  | some g =>
    obtain ⟨j, w⟩ := g
    simp only
    cases hj : (ops[j]?).bind (·.dst) with
    | none => rfl
    | some q =>
      simp only
      have hne : ∀ t, d = some t → q ≠ t := fun t ht e => h t ht (by simp [Oper.looksAt, hg, hj, e])
      have : putF a d v q = a q := by
        cases d with
        | none => rfl
        | some t => simp [putF, upd, hne t rfl]
      rw [this]

theorem operands_put {a : Fr} {d : Option Tmp} {v : Value} {o : Oper} (h : ∀ t, d = some t → t ∉ o.looksAt ops) : ∀ x ∈ o.op.operands, evF (putF a d v) x = evF a x := by
  intro x hx
  refine evF_put fun t ht e => h t ht ?_
  subst e
  simp only [Oper.looksAt, List.mem_append, List.mem_filterMap]
  exact .inl ⟨.tmp t, Array.mem_toList_iff.2 hx, rfl⟩

theorem putF_comm {a : Fr} {d e : Option Tmp} {v u : Value} (h : ∀ t, d = some t → e ≠ some t) : putF (putF a d v) e u = putF (putF a e u) d v := by
  cases d with
  | none => rfl
  | some t =>
    cases e with
    | none => rfl
    | some q =>
      have : t ≠ q := fun x => h t rfl (by rw [x])
      funext j
      simp only [putF, upd]
      by_cases h1 : j = q
      · subst h1
        have : ¬ j = t := fun x => this x.symm
        simp [this]
      · simp [h1]

/-- An operation steps alike whether or not what it does not see is there. -/
theorem LStp.unput {j : Nat} {oi oj : Oper} {a : Fr} {A : AW} {v : Value} {k : Fr → AW → Prop} (hap : oi.apart ops oj = true) (h : LStp P ops S md j oj (putF a oi.dst v) A k) :
    LStp P ops S md j oj a A fun a' A' => k (putF a' oi.dst v) A' := by
  obtain ⟨h1, h2, h3⟩ := Oper.apart_spec hap
  unfold LStp at *
  rw [gval_put h1] at h
  split
  · rename_i hg
    rw [if_pos hg] at h
    split
    · rename_i hm
      rw [if_pos hm, aq_congr (operands_put h1)] at h
      obtain ⟨u, h4, h5⟩ := h
      exact ⟨u, h4, by show k (putF (putF a oj.dst u) oi.dst v) A; rw [← putF_comm h2]; exact h5⟩
    · rename_i hm
      rw [if_neg hm, AStep_congr (operands_put h1)] at h
      refine h.mono fun u A' ⟨h4, h5⟩ => ⟨h4, by show k (putF (putF a oj.dst u) oi.dst v) A'; rw [← putF_comm h2]; exact h5⟩
  · rename_i hg
    rw [if_neg hg] at h
    rw [← putF_comm h2]
    exact h

/-! ### Who waits for whom -/

def Closed (ops : Array Oper) (L : Nat → Bool) : Prop := ∀ k o, ops[k]? = some o → L k = true → ∀ e ∈ o.after, Region.binds .any e = true → L e.on = true

def ancF (anc : List Nat) (m : Nat) (e : Edge) : Nat := if Region.binds .any e = true then (m ||| anc.getD e.on 0) ||| 2 ^ e.on else m
def ancL : List Oper → List Nat → List Nat
  | [], acc => acc
  | o :: r, acc => ancL r (acc ++ [o.after.toList.foldl (ancF acc) 0])
def ancOk (ops : Array Oper) (anc : List Nat) : Bool := (List.range ops.size).all fun i => match ops[i]? with | some o => anc.getD i 0 == o.after.toList.foldl (ancF anc) 0 | none => false

theorem ancF_bit {anc : List Nat} {q : Nat} : ∀ (l : List Edge) (m : Nat), (l.foldl (ancF anc) m).testBit q = true → m.testBit q = true ∨ ∃ e ∈ l, Region.binds .any e = true ∧ ((anc.getD e.on 0).testBit q = true ∨ e.on = q)
  | [], m, h => .inl h
  | e :: l, m, h => by
    rw [List.foldl_cons] at h
    rcases ancF_bit l _ h with h1 | ⟨e', h1, h2⟩
    · unfold ancF at h1
      split at h1
      · rename_i hb
        rw [Nat.testBit_or, Nat.testBit_or, Bool.or_eq_true, Bool.or_eq_true] at h1
        rcases h1 with (h1 | h1) | h1
        · exact .inl h1
        · exact .inr ⟨e, by simp, hb, .inl h1⟩
        · rw [Nat.testBit_two_pow] at h1
          exact .inr ⟨e, by simp, hb, .inr (by simpa using h1)⟩
      · exact .inl h1
    · exact .inr ⟨e', by simp [h1], h2⟩

theorem anc_edge (ha : ancOk ops anc = true) {i q : Nat} {o : Oper} (ho : ops[i]? = some o) (h : (anc.getD i 0).testBit q = true) :
    ∃ e ∈ o.after, Region.binds .any e = true ∧ ((anc.getD e.on 0).testBit q = true ∨ e.on = q) := by
  have := List.all_eq_true.1 ha i (List.mem_range.2 (Array.getElem?_eq_some_iff.1 ho).1)
  rw [ho] at this
  simp only [beq_iff_eq] at this
  rw [this] at h
  rcases ancF_bit _ _ h with h1 | ⟨e, h1, h2⟩
  · simp at h1
  · exact ⟨e, Array.mem_toList_iff.1 h1, h2⟩

theorem closed_anc (hah : aheadOk ops = true) (ha : ancOk ops anc = true) {L : Nat → Bool} (hc : Closed ops L) {q : Nat} : ∀ n k o, k < n → ops[k]? = some o → L k = true → (anc.getD k 0).testBit q = true → L q = true
  | 0, k, o, h, _, _, _ => by omega
  | n + 1, k, o, hk, ho, hL, hb => by
    obtain ⟨e, he, hbn, h1⟩ := anc_edge ha ho hb
    have hLe := hc k o ho hL e he hbn
    rcases h1 with h1 | h1
    · have hlt := aheadOk_lt hah ho he hbn
      have hks := (Array.getElem?_eq_some_iff.1 ho).1
      exact closed_anc hah ha hc n e.on ops[e.on] (by omega) (Array.getElem?_eq_getElem (by omega)) hLe h1
    · rw [← h1]; exact hLe

theorem ready_anc (hah : aheadOk ops = true) (ha : ancOk ops anc = true) {L : Nat → Bool} (hc : Closed ops L) {j q : Nat} {o : Oper} (ho : ops[j]? = some o) (hr : Rdy L j o) (hb : (anc.getD j 0).testBit q = true) : L q = true := by
  obtain ⟨e, he, hbn, h1⟩ := anc_edge ha ho hb
  have hLe := hr.2 e he hbn
  rcases h1 with h1 | h1
  · have hlt := aheadOk_lt hah ho he hbn
    have hks := (Array.getElem?_eq_some_iff.1 ho).1
    exact closed_anc hah ha hc _ e.on ops[e.on] (Nat.lt_succ_self _) (Array.getElem?_eq_getElem (by omega)) hLe h1
  · rw [← h1]; exact hLe

theorem Closed.set {L : Nat → Bool} (hc : Closed ops L) {i : Nat} {o : Oper} (ho : ops[i]? = some o) (hr : Rdy L i o) : Closed ops (setL L i) := by
  intro k o' ho' hk e he hb
  unfold setL at hk ⊢
  split
  · rfl
  · split at hk
    · rename_i e'
      subst e'
      rw [ho] at ho'
      injection ho' with ho'
      subst ho'
      exact hr.2 e he hb
    · exact hc k o' ho' hk e he hb

theorem Rdy.mono {L : Nat → Bool} {i j : Nat} {o : Oper} (h : Rdy L i o) (hne : i ≠ j) : Rdy (setL L j) i o := by
  refine ⟨by simp [setL, hne, h.1], fun e he hb => ?_⟩
  unfold setL
  split
  · rfl
  · exact h.2 e he hb

theorem setL_comm (L : Nat → Bool) (i j : Nat) : setL (setL L i) j = setL (setL L j) i := by
  funext k
  simp only [setL]
  split <;> split <;> rfl

/-! ### What only computes may be taken first -/

theorem aany_first (hah : aheadOk ops = true) (ha : ancOk ops anc = true) {i : Nat} {o : Oper} {v : Value} (hi : ops[i]? = some o) (hmd : md i ≤ 1) : ∀ (n : Nat) (L : Nat → Bool) (a : Fr) (A : AW), Closed ops L →
    (∀ j oj, ops[j]? = some oj → j ≠ i → L j = false → (∀ e ∈ oj.after, Region.binds .any e = true → e.on ≠ i) → o.apart ops oj = true) →
    (memless o.op = true ∨ (∀ j oj, ops[j]? = some oj → j ≠ i → 3 ≤ md j → L j = false → (anc.getD j 0).testBit i = true) ∨ ∀ A', S A' → gval ops a o = true → aq P A' (evF a) o.op = some v) →
    Rdy L i o → ((gval ops a o = true ∧ aq P A (evF a) o.op = some v) ∨ (gval ops a o = false ∧ v = undef)) →
    AAny P ops S md K n (setL L i) (putF a o.dst v) A → AAny P ops S md K (n + 1) L a A := by
  intro n
  induction n with
  | zero =>
    intro L a A hc hfree hst hr hy H
    refine ⟨fun hall => ?_, fun hw j oj hj hrj => ?_⟩
    · have := hall i (Array.getElem?_eq_some_iff.1 hi).1
      rw [hr.1] at this
      cases this
    · by_cases hji : j = i
      · subst hji
        rw [hi] at hj
        injection hj with hj
        subst hj
        unfold LStp
        rcases hy with ⟨h1, h2⟩ | ⟨h1, rfl⟩
        · rw [if_pos h1, if_pos hmd]
          exact ⟨v, h2, H⟩
        · rw [if_neg (by simp [h1])]
          exact H
      · have := H.1 j (Array.getElem?_eq_some_iff.1 hj).1
        simp [setL, hji, hrj.1] at this
  | succ n ih =>
    intro L a A hc hfree hst hr hy H
    refine ⟨fun hall => ?_, fun hw j oj hj hrj => ?_⟩
    · have := hall i (Array.getElem?_eq_some_iff.1 hi).1
      rw [hr.1] at this
      cases this
    · by_cases hji : j = i
      · subst hji
        rw [hi] at hj
        injection hj with hj
        subst hj
        unfold LStp
        rcases hy with ⟨h1, h2⟩ | ⟨h1, rfl⟩
        · rw [if_pos h1, if_pos hmd]
          exact ⟨v, h2, H⟩
        · rw [if_neg (by simp [h1])]
          exact H
      · have hnot : ∀ e ∈ oj.after, Region.binds .any e = true → e.on ≠ i := fun e he hb heq => by
          have := hrj.2 e he hb
          rw [heq, hr.1] at this
          cases this
        have hap := hfree j oj hj hji hrj.1 hnot
        obtain ⟨g1, g2, g3⟩ := Oper.apart_spec hap
        have h1 := H.2 hw j oj hj (hrj.mono hji)
        refine (LStp.unput hap h1).mono fun u A' m1 m2 m3 m4 hk => ?_
        have hgv : gval ops (putF a oj.dst u) o = gval ops a o := gval_put g3
        have hop : ∀ A0, aq P A0 (evF (putF a oj.dst u)) o.op = aq P A0 (evF a) o.op := fun A0 => aq_congr (operands_put g3)
        have hcl := hc.set hj hrj
        refine ih (setL L j) (putF a oj.dst u) A' hcl ?_ ?_ (hr.mono (Ne.symm hji)) ?_ (by rw [setL_comm]; exact hk)
        · intro q oq hq hqi hLq hno
          refine hfree q oq hq hqi ?_ hno
          unfold setL at hLq
          split at hLq
          · cases hLq
          · exact hLq
        · rcases hst with h | h | h
          · exact .inl h
          · refine .inr (.inl fun q oq hq hqi h3 hLq => h q oq hq hqi h3 ?_)
            unfold setL at hLq
            split at hLq
            · cases hLq
            · exact hLq
          · exact .inr (.inr fun A'' hS hg => by rw [hop]; exact h A'' hS (by rw [← hgv]; exact hg))
        · rw [hgv, hop]
          rcases hy with ⟨h2, h3⟩ | h2
          · refine .inl ⟨h2, ?_⟩
            rcases Nat.lt_or_ge (md j) 2 with hj1 | hj1
            · rw [m1 (by omega)]; exact h3
            · rcases Nat.lt_or_ge (md j) 3 with hj2 | hj2
              · have hle := m2 (by omega)
                exact aq_keep (fun i o hi => hle.keep hw hi) h3
              · rcases hst with h | h | h
                · rw [aq_memless h]; exact h3
                · exfalso
                  have := ready_anc hah ha hc hj hrj (h j oj hj hji hj2 hrj.1)
                  rw [hr.1] at this
                  cases this
                · cases hgj : gval ops a oj with
                  | true => exact h A' (m3 hj2 hgj) h2
                  | false => rw [m4 hgj]; exact h3
          · exact .inr h2

/-! ### The walk -/

structure LOp where
  dst : Option Tmp
  op : Op
  guard : Option (Option Tmp × Bool)
  mode : Nat

def lop (ops : Array Oper) (x : Nat × Nat) : Option LOp := (ops[x.1]?).map fun o => ⟨o.dst, o.op, slimG ops o.guard, x.2⟩
def lops (ops : Array Oper) (ord : List (Nat × Nat)) : List LOp := ord.filterMap (lop ops)

def AqK (P : Program) (A : AW) (r : Operand → Value) (op : Op) (k : Value → Prop) : Prop :=
  match aq P A r op with
  | some v => k v
  | none => False

def LWalk (P : Program) (S : AW → Prop) (K : Fr → AW → Prop) : List LOp → Fr → AW → Prop
  | [], a, A => K a A
  | o :: rest, a, A =>
    if sg a o.guard = true then
      match o.mode with
      | 0 => AqK P A (evF a) o.op fun v => LWalk P S K rest (putF a o.dst v) A
      | 1 => AqK P A (evF a) o.op fun v => (∀ A', S A' → aq P A' (evF a) o.op = some v) ∧ LWalk P S K rest (putF a o.dst v) A
      | 2 => AStep P o.op (evF a) A fun v A' => A.le A' ∧ LWalk P S K rest (putF a o.dst v) A'
      | _ => AStep P o.op (evF a) A fun v A' => S A' ∧ LWalk P S K rest (putF a o.dst v) A'
    else LWalk P S K rest (putF a o.dst undef) A

def mdOf (ord : List (Nat × Nat)) (j : Nat) : Nat := ((ord.find? fun x => x.1 == j).map (·.2)).getD 3

def readyB (M : Nat) (i : Nat) (o : Oper) : Bool := !M.testBit i && o.after.all fun e => !Region.binds .any e || M.testBit e.on
def freeB (ops : Array Oper) (M : Nat) (i : Nat) (o : Oper) : Bool := (List.range ops.size).all fun j => j == i || M.testBit j || match ops[j]? with
  | some oj => oj.after.any (fun e => Region.binds .any e && e.on == i) || o.apart ops oj
  | none => true
def forcedB (ops : Array Oper) (anc : List Nat) (ord : List (Nat × Nat)) (M i : Nat) : Bool := (List.range ops.size).all fun j => j == i || M.testBit j || !(Nat.ble 3 (mdOf ord j)) || (anc.getD j 0).testBit i
def soleB (ops : Array Oper) (M i : Nat) : Bool := (List.range ops.size).all fun j => j == i || match ops[j]? with
  | some oj => !readyB M j oj
  | none => true

def linGo (ops : Array Oper) (anc : List Nat) (ord : List (Nat × Nat)) : Nat → List (Nat × Nat) → Bool
  | M, [] => (List.range ops.size).all fun j => M.testBit j
  | M, (i, m) :: r => (match ops[i]? with
      | none => false
      | some o => readyB M i o && Nat.beq (mdOf ord i) m && (if Nat.ble m 1 then freeB ops M i o && (Nat.beq m 1 || memless o.op || forcedB ops anc ord M i) else soleB ops M i)) && linGo ops anc ord (M ||| 2 ^ i) r

/-- The order fits the region. -/
def linB (ops : Array Oper) (ord : List (Nat × Nat)) : Bool := aheadOk ops && (let anc := ancL ops.toList []; ancOk ops anc && (linGo ops anc ord 0 ord && ord.all fun x => match ops[x.1]? with | some o => Nat.ble x.2 1 == quietOp o.op | none => false))

theorem readyB_spec {M i : Nat} {o : Oper} {L : Nat → Bool} (hi : i < ops.size) (hah : aheadOk ops = true) (ho : ops[i]? = some o) (hL : ∀ j, j < ops.size → L j = M.testBit j) : readyB M i o = true ↔ Rdy L i o := by
  unfold readyB Rdy
  rw [Bool.and_eq_true, Bool.not_eq_true', ← hL i hi, Array.all_eq_true_iff_forall_mem]
  refine and_congr Iff.rfl (forall_congr' fun e => forall_congr' fun he => ?_)
  simp only [Bool.or_eq_true, Bool.not_eq_true']
  constructor
  · rintro (h | h) hb
    · rw [h] at hb; cases hb
    · have hlt := aheadOk_lt hah ho he hb
      rw [hL e.on (by omega)]
      exact h
  · intro h
    cases hb : Region.binds .any e
    · exact .inl rfl
    · have hlt := aheadOk_lt hah ho he hb
      rw [← hL e.on (by omega)]
      exact .inr (h hb)

theorem aany_of_walk (hah : aheadOk ops = true) (ha : ancOk ops anc = true) {ord : List (Nat × Nat)} : ∀ (l : List (Nat × Nat)) (M : Nat) (L : Nat → Bool) (a : Fr) (A : AW), (∀ j, j < ops.size → L j = M.testBit j) → Closed ops L →
    linGo ops anc ord M l = true → LWalk P S K (lops ops l) a A → AAny P ops S (mdOf ord) K l.length L a A
  | [], M, L, a, A, hL, hc, hg, h => ⟨fun j hj => by rw [hL j hj]; exact List.all_eq_true.1 hg j (List.mem_range.2 hj), h⟩
  | (i, m) :: r, M, L, a, A, hL, hc, hg, h => by
    unfold linGo at hg
    rw [Bool.and_eq_true] at hg
    obtain ⟨hg1, hg2⟩ := hg
    cases hi : ops[i]? with
    | none => rw [hi] at hg1; cases hg1
    | some o =>
      rw [hi] at hg1
      simp only [Bool.and_eq_true] at hg1
      obtain ⟨⟨hr, hmd⟩, hcls⟩ := hg1
      have hil := (Array.getElem?_eq_some_iff.1 hi).1
      have hmd' : mdOf ord i = m := Nat.eq_of_beq_eq_true hmd
      have hrd : Rdy L i o := (readyB_spec hil hah hi hL).1 hr
      have hL' : ∀ j, j < ops.size → setL L i j = (M ||| 2 ^ i).testBit j := fun j hj => by
        rw [Nat.testBit_or, Nat.testBit_two_pow, ← hL j hj]
        unfold setL
        by_cases e : j = i
        · subst e; simp
        · have : ¬ i = j := fun x => e x.symm
          simp [e, this]
      have hc' := hc.set hi hrd
      have IH : ∀ a A, LWalk P S K (lops ops r) a A → AAny P ops S (mdOf ord) K r.length (setL L i) a A := fun a A h => aany_of_walk hah ha r (M ||| 2 ^ i) _ a A hL' hc' hg2 h
      have hlop : lops ops ((i, m) :: r) = ⟨o.dst, o.op, slimG ops o.guard, m⟩ :: lops ops r := by simp [lops, lop, hi]
      rw [hlop] at h
      unfold LWalk at h
      simp only [← sg_eq] at h
      have hsole : ¬ m ≤ 1 → ∀ j oj, ops[j]? = some oj → Rdy L j oj → j = i := fun hm1 j oj hj hrj => by
        rw [if_neg (by simpa [Nat.ble_eq] using hm1)] at hcls
        have h1 := List.all_eq_true.1 hcls j (List.mem_range.2 (Array.getElem?_eq_some_iff.1 hj).1)
        rw [hj] at h1
        simp only [Bool.or_eq_true, beq_iff_eq, Bool.not_eq_true'] at h1
        rcases h1 with h1 | h1
        · exact h1
        · rw [(readyB_spec (Array.getElem?_eq_some_iff.1 hj).1 hah hj hL).2 hrj] at h1
          cases h1
      have hnall : ¬ ∀ j, j < ops.size → L j = true := fun hall => by
        have := hall i hil
        rw [hrd.1] at this
        cases this
      by_cases hm1 : m ≤ 1
      · rw [if_pos (by simpa [Nat.ble_eq] using hm1)] at hcls
        simp only [Bool.and_eq_true] at hcls
        obtain ⟨hfr, hst⟩ := hcls
        have hfree : ∀ j oj, ops[j]? = some oj → j ≠ i → L j = false → (∀ e ∈ oj.after, Region.binds .any e = true → e.on ≠ i) → o.apart ops oj = true := fun j oj hj hji hLj hno => by
          have hjl := (Array.getElem?_eq_some_iff.1 hj).1
          have h1 := List.all_eq_true.1 hfr j (List.mem_range.2 hjl)
          rw [hj, ← hL j hjl, hLj] at h1
          simp only [Bool.or_eq_true, beq_iff_eq, Bool.false_eq_true, or_false] at h1
          rcases h1 with h1 | h1 | h1
          · exact absurd h1 hji
          · exfalso
            rw [Array.any_eq_true] at h1
            obtain ⟨q, hq, h2⟩ := h1
            simp only [Bool.and_eq_true, beq_iff_eq] at h2
            exact hno _ (Array.getElem_mem hq) h2.1 h2.2
          · exact h1
        have fin : ∀ v, ((gval ops a o = true ∧ aq P A (evF a) o.op = some v) ∨ (gval ops a o = false ∧ v = undef)) → (m = 1 → gval ops a o = true → ∀ A', S A' → aq P A' (evF a) o.op = some v) →
            LWalk P S K (lops ops r) (putF a o.dst v) A → AAny P ops S (mdOf ord) K (r.length + 1) L a A := by
          intro v hy hS hk
          refine aany_first hah ha hi (by omega) r.length L a A hc hfree ?_ hrd hy (IH _ _ hk)
          simp only [Bool.or_eq_true] at hst
          rcases hst with (h1 | h1) | h1
          · exact .inr (.inr fun A' hA' hgv => hS (Nat.eq_of_beq_eq_true h1) hgv A' hA')
          · exact .inl h1
          · refine .inr (.inl fun j oj hj hji h3 hLj => ?_)
            have hjl := (Array.getElem?_eq_some_iff.1 hj).1
            have h2 := List.all_eq_true.1 h1 j (List.mem_range.2 hjl)
            rw [← hL j hjl, hLj] at h2
            have hb3 : Nat.ble 3 (mdOf ord j) = true := Nat.ble_eq_true_of_le h3
            rw [hb3] at h2
            simpa [hji] using h2
        split at h
        · rename_i hgv
          have : m = 0 ∨ m = 1 := by omega
          rcases this with rfl | rfl
          · simp only [AqK] at h
            split at h
            · rename_i v hv
              exact fin v (.inl ⟨hgv, hv⟩) (fun e => by omega) h
            · exact h.elim
          · simp only [AqK] at h
            split at h
            · rename_i v hv
              exact fin v (.inl ⟨hgv, hv⟩) (fun _ _ => h.1) h.2
            · exact h.elim
        · rename_i hgv
          have hgv' : gval ops a o = false := by simpa using hgv
          exact fin undef (.inr ⟨hgv', rfl⟩) (fun _ e => by rw [hgv'] at e; cases e) h
      · refine ⟨fun hall => absurd hall hnall, fun hw j oj hj hrj => ?_⟩
        have hji := hsole hm1 j oj hj hrj
        subst hji
        rw [hi] at hj
        injection hj with hj
        subst hj
        unfold LStp
        split at h
        · rename_i hgv
          rw [if_pos hgv, if_neg (by omega), hmd']
          by_cases h2 : m = 2
          · subst h2
            exact h.mono fun v A' hh => ⟨by rw [if_pos rfl]; exact hh.1, IH _ _ hh.2⟩
          · have : ∃ q, m = q + 3 := ⟨m - 3, by omega⟩
            obtain ⟨q, rfl⟩ := this
            exact h.mono fun v A' hh => ⟨by rw [if_neg h2]; exact hh.1, IH _ _ hh.2⟩
        · rename_i hgv
          rw [if_neg hgv]
          exact IH _ _ h

end

/-- A region that draws its order, then the rest. -/
theorem awp_ls {P : Program} {n : Nat} {Q : Exit → Fr → AW → Prop} {a : Fr} {A : AW} {id : Nat} {ops : Array Oper} {y : Code} (S : AW → Prop) (ord : List (Nat × Nat)) (hm : P.follows .mixedOrders = true) (hB : linB ops ord = true)
    (h : ∀ K : Fr → AW → Prop, (∀ a A, AWP P n y Q a A → K a A) → LWalk P S K (lops ops ord) a A) : AWP P n (.seq (.region id ops true) y) Q a A := by
  simp only [linB, Bool.and_eq_true] at hB
  exact awp_seq (awp_of_aany hm hB.1 (aany_of_walk hB.1 hB.2.1 ord 0 _ a A (fun j _ => by simp) (fun k o _ hk => by cases hk) hB.2.2.1 (h _ fun _ _ h => h)))
theorem awp_l1 {P : Program} {n : Nat} {Q : Exit → Fr → AW → Prop} {a : Fr} {A : AW} {id : Nat} {ops : Array Oper} (S : AW → Prop) (ord : List (Nat × Nat)) (hm : P.follows .mixedOrders = true) (hB : linB ops ord = true)
    (h : ∀ K : Fr → AW → Prop, (∀ a A, Q .normal a A → K a A) → LWalk P S K (lops ops ord) a A) : AWP P n (.region id ops true) Q a A := by
  simp only [linB, Bool.and_eq_true] at hB
  exact awp_of_aany hm hB.1 (aany_of_walk hB.1 hB.2.1 ord 0 _ a A (fun j _ => by simp) (fun k o _ hk => by cases hk) hB.2.2.1 (h _ fun _ _ h => h))

theorem lwalk_cons {P : Program} {S : AW → Prop} {K : Fr → AW → Prop} {o : LOp} {rest : List LOp} {a : Fr} {A : AW}
    (h : ∀ R : Fr → AW → Prop, (∀ a A, LWalk P S K rest a A → R a A) →
      if sg a o.guard = true then
        match o.mode with
        | 0 => AqK P A (evF a) o.op fun v => R (putF a o.dst v) A
        | 1 => AqK P A (evF a) o.op fun v => (∀ A', S A' → aq P A' (evF a) o.op = some v) ∧ R (putF a o.dst v) A
        | 2 => AStep P o.op (evF a) A fun v A' => A.le A' ∧ R (putF a o.dst v) A'
        | _ => AStep P o.op (evF a) A fun v A' => S A' ∧ R (putF a o.dst v) A'
      else R (putF a o.dst undef) A) : LWalk P S K (o :: rest) a A := h _ fun _ _ h => h
theorem lwalk_nil {P : Program} {S : AW → Prop} {K : Fr → AW → Prop} {a : Fr} {A : AW} (h : K a A) : LWalk P S K [] a A := h

attribute [simp] AqK

end Go.Stx
