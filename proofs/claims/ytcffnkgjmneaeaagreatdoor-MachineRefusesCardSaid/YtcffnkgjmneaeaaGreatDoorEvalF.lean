/-
  The machine that runs code over the abstract memory, with regions whose operations may make blocks in any order.
-/
import Derived.Test.YtcffnkgjmneaeaaGreatDoorEval
import Derived.Test.YtcffnkgjmneaeaaGreatDoorFloat
namespace Go.Stx
open Go
variable [Gl]
set_option linter.unusedSectionVars false
set_option linter.unusedVariables false
set_option linter.unusedSimpArgs false
noncomputable section

/-! ### One walk, in an order of ours -/

section
variable {P : Program} {ops : Array Oper} {S : AW → Prop} {md : Nat → Nat} {K : Fr → AW → Prop} {anc : List Nat} {fl : List FD}

/-- What an operation that leaves the memory alone answers: a float its number, an entry nothing, others what they compute. -/
def RD (P : Program) (fl : List FD) (i : Nat) (A : AW) (r : Operand → Value) (op : Op) (v : Value) : Prop :=
  (∃ x ∈ fl, x.op = i ∧ mkO P r op = some (x.k, x.ob) ∧ v = x.k.val x.num) ∨
  (∃ x ∈ fl, ∃ q ∈ x.ins, q.1 = i ∧ (∃ t X Y V, op = .insert t X Y V ∧ TyOk P t x ∧ x.ob = .map [] true ∧ r X = .map (some x.num) ∧ r Y = q.2.1 ∧ r V = q.2.2) ∧ v = undef) ∨
  ((∀ x ∈ fl, x.op ≠ i ∧ ∀ q ∈ x.ins, q.1 ≠ i) ∧ aq P A r op = some v)

theorem RD.congr {i : Nat} {A : AW} {r r' : Operand → Value} {op : Op} {v : Value} (h : RD P fl i A r op v) (hr : ∀ x ∈ op.operands, r x = r' x) : RD P fl i A r' op v := by
  rcases h with ⟨x, h1, h2, h3, h4⟩ | ⟨x, h1, q, h2, h3, ⟨t, X, Y, V, rfl, h5, h6, h7, h8, h9⟩, h10⟩ | ⟨h1, h2⟩
  · exact .inl ⟨x, h1, h2, by rw [← mkO_congr hr]; exact h3, h4⟩
  · refine .inr (.inl ⟨x, h1, q, h2, h3, ⟨t, X, Y, V, rfl, h5, h6, ?_, ?_, ?_⟩, h10⟩)
    · rw [← hr X (by simp [Op.operands])]; exact h7
    · rw [← hr Y (by simp [Op.operands])]; exact h8
    · rw [← hr V (by simp [Op.operands])]; exact h9
  · exact .inr (.inr ⟨h1, by rw [← aq_congr hr]; exact h2⟩)

theorem RD.mem {i : Nat} {A A' : AW} {r : Operand → Value} {op : Op} {v : Value} (h : RD P fl i A r op v) (hm : memless op = true ∨ (∃ x ∈ fl, x.op = i ∨ ∃ q ∈ x.ins, q.1 = i)) : RD P fl i A' r op v := by
  rcases h with h | h | ⟨h1, h2⟩
  · exact .inl h
  · exact .inr (.inl h)
  · rcases hm with hm | ⟨x, hx, e | ⟨q, hq, e⟩⟩
    · exact .inr (.inr ⟨h1, by rw [aq_memless hm]; exact h2⟩)
    · exact absurd e (h1 x hx).1
    · exact absurd e ((h1 x hx).2 q hq)

def FStp (P : Program) (ops : Array Oper) (S : AW → Prop) (md : Nat → Nat) (fl : List FD) (i : Nat) (o : Oper) (a : Fr) (A : AW) (k : Fr → AW → Prop) : Prop :=
  if gval ops a o = true then
    if md i ≤ 1 then ∃ v, RD P fl i A (evF a) o.op v ∧ k (putF a o.dst v) A
    else AStep P o.op (evF a) (clm (clOf fl i) A) fun v A' => (md i = 3 → S A') ∧ k (putF a o.dst v) A'
  else k (putF a o.dst undef) A

def FAny (P : Program) (ops : Array Oper) (S : AW → Prop) (md : Nat → Nat) (fl : List FD) (K : Fr → AW → Prop) : Nat → (Nat → Bool) → Fr → AW → Prop
  | 0, L, a, A => (∀ i, i < ops.size → L i = true) ∧ K a A
  | n + 1, L, a, A => ((∀ i, i < ops.size → L i = true) → K a A) ∧ (A.Wf → ∀ i o, ops[i]? = some o → Rdy L i o → FStp P ops S md fl i o a A (FAny P ops S md fl K n (setL L i)))

theorem FStp.mono {i : Nat} {o : Oper} {a : Fr} {A : AW} {k k' : Fr → AW → Prop} (h : FStp P ops S md fl i o a A k)
    (hk : ∀ v A', (md i ≤ 1 → A' = A) → (md i = 3 → gval ops a o = true → S A') → (gval ops a o = false → A' = A) → k (putF a o.dst v) A' → k' (putF a o.dst v) A') : FStp P ops S md fl i o a A k' := by
  unfold FStp at *
  split
  · rename_i hg
    rw [if_pos hg] at h
    split
    · rename_i hm
      rw [if_pos hm] at h
      obtain ⟨v, h1, h2⟩ := h
      exact ⟨v, h1, hk v A (fun _ => rfl) (fun e => by omega) (fun _ => rfl) h2⟩
    · rename_i hm
      rw [if_neg hm] at h
      exact h.mono fun v A' ⟨h1, h2⟩ => ⟨h1, hk v A' (fun e => absurd e hm) (fun e _ => h1 e) (fun e => by rw [e] at hg; cases hg) h2⟩
  · rename_i hg
    rw [if_neg hg] at h
    have hg' : gval ops a o = false := by simpa using hg
    exact hk undef A (fun _ => rfl) (fun _ e => by rw [e] at hg'; cases hg') (fun _ => rfl) h

theorem FStp.unput {j : Nat} {oi oj : Oper} {a : Fr} {A : AW} {v : Value} {k : Fr → AW → Prop} (hap : oi.apart ops oj = true) (h : FStp P ops S md fl j oj (putF a oi.dst v) A k) :
    FStp P ops S md fl j oj a A fun a' A' => k (putF a' oi.dst v) A' := by
  obtain ⟨h1, h2, h3⟩ := Oper.apart_spec hap
  unfold FStp at *
  rw [gval_put h1] at h
  split
  · rename_i hg
    rw [if_pos hg] at h
    split
    · rename_i hm
      rw [if_pos hm] at h
      obtain ⟨u, h4, h5⟩ := h
      exact ⟨u, h4.congr (operands_put h1), by show k (putF (putF a oj.dst u) oi.dst v) A; rw [← putF_comm h2]; exact h5⟩
    · rename_i hm
      rw [if_neg hm, AStep_congr (operands_put h1)] at h
      refine h.mono fun u A' ⟨h4, h5⟩ => ⟨h4, by show k (putF (putF a oj.dst u) oi.dst v) A'; rw [← putF_comm h2]; exact h5⟩
  · rename_i hg
    rw [if_neg hg] at h
    rw [← putF_comm h2]
    exact h

theorem fany_first (hah : aheadOk ops = true) (ha : ancOk ops anc = true) {i : Nat} {o : Oper} {v : Value} (hi : ops[i]? = some o) (hmd : md i ≤ 1) : ∀ (n : Nat) (L : Nat → Bool) (a : Fr) (A : AW), Closed ops L →
    (∀ j oj, ops[j]? = some oj → j ≠ i → L j = false → (∀ e ∈ oj.after, Region.binds .any e = true → e.on ≠ i) → o.apart ops oj = true) →
    ((memless o.op = true ∨ (∃ x ∈ fl, x.op = i ∨ ∃ q ∈ x.ins, q.1 = i)) ∨ (∀ j oj, ops[j]? = some oj → j ≠ i → 2 ≤ md j → L j = false → (anc.getD j 0).testBit i = true) ∨
      ((∀ j oj, ops[j]? = some oj → j ≠ i → 2 ≤ md j → md j ≠ 3 → L j = false → (anc.getD j 0).testBit i = true) ∧ ∀ A', S A' → gval ops a o = true → RD P fl i A' (evF a) o.op v)) →
    Rdy L i o → ((gval ops a o = true ∧ RD P fl i A (evF a) o.op v) ∨ (gval ops a o = false ∧ v = undef)) →
    FAny P ops S md fl K n (setL L i) (putF a o.dst v) A → FAny P ops S md fl K (n + 1) L a A := by
  intro n
  have self : ∀ (n : Nat) (L : Nat → Bool) (a : Fr) (A : AW) (j : Nat) (oj : Oper), ops[j]? = some oj → j = i → ((gval ops a o = true ∧ RD P fl i A (evF a) o.op v) ∨ (gval ops a o = false ∧ v = undef)) →
      FAny P ops S md fl K n (setL L i) (putF a o.dst v) A → FStp P ops S md fl j oj a A (FAny P ops S md fl K n (setL L j)) := by
    intro n L a A j oj hj hji hy H
    subst hji
    rw [hi] at hj
    injection hj with hj
    subst hj
    unfold FStp
    rcases hy with ⟨h1, h2⟩ | ⟨h1, rfl⟩
    · rw [if_pos h1, if_pos hmd]
      exact ⟨v, h2, H⟩
    · rw [if_neg (by simp [h1])]
      exact H
  induction n with
  | zero =>
    intro L a A hc hfree hst hr hy H
    refine ⟨fun hall => ?_, fun hw j oj hj hrj => ?_⟩
    · have := hall i (Array.getElem?_eq_some_iff.1 hi).1
      rw [hr.1] at this
      cases this
    · by_cases hji : j = i
      · exact self 0 L a A j oj hj hji hy H
      · have := H.1 j (Array.getElem?_eq_some_iff.1 hj).1
        simp [setL, hji, hrj.1] at this
  | succ n ih =>
    intro L a A hc hfree hst hr hy H
    refine ⟨fun hall => ?_, fun hw j oj hj hrj => ?_⟩
    · have := hall i (Array.getElem?_eq_some_iff.1 hi).1
      rw [hr.1] at this
      cases this
    · by_cases hji : j = i
      · exact self (n + 1) L a A j oj hj hji hy H
      · have hnot : ∀ e ∈ oj.after, Region.binds .any e = true → e.on ≠ i := fun e he hb heq => by
          have := hrj.2 e he hb
          rw [heq, hr.1] at this
          cases this
        have hap := hfree j oj hj hji hrj.1 hnot
        obtain ⟨g1, g2, g3⟩ := Oper.apart_spec hap
        have h1 := H.2 hw j oj hj (hrj.mono hji)
        refine (FStp.unput hap h1).mono fun u A' m1 m3 m4 hk => ?_
        have hgv : gval ops (putF a oj.dst u) o = gval ops a o := gval_put g3
        have hop : ∀ A0, RD P fl i A0 (evF a) o.op v → RD P fl i A0 (evF (putF a oj.dst u)) o.op v := fun A0 h => h.congr fun x hx => (operands_put g3 x hx).symm
        have hcl := hc.set hj hrj
        have hset : ∀ {q}, (setL L j) q = false → L q = false := fun {q} hq => by
          unfold setL at hq
          split at hq
          · cases hq
          · exact hq
        refine ih (setL L j) (putF a oj.dst u) A' hcl ?_ ?_ (hr.mono (Ne.symm hji)) ?_ (by rw [setL_comm]; exact hk)
        · exact fun q oq hq hqi hLq hno => hfree q oq hq hqi (hset hLq) hno
        · rcases hst with h | h | h
          · exact .inl h
          · exact .inr (.inl fun q oq hq hqi h3 hLq => h q oq hq hqi h3 (hset hLq))
          · exact .inr (.inr ⟨fun q oq hq hqi h3 h4 hLq => h.1 q oq hq hqi h3 h4 (hset hLq), fun A'' hS hg => hop _ (h.2 A'' hS (by rw [← hgv]; exact hg))⟩)
        · rw [hgv]
          rcases hy with ⟨h2, h3⟩ | h2
          · refine .inl ⟨h2, hop _ ?_⟩
            rcases Nat.lt_or_ge (md j) 2 with hj1 | hj1
            · rw [m1 (by omega)]; exact h3
            · rcases hst with h | h | h
              · exact h3.mem h
              · exfalso
                have := ready_anc hah ha hc hj hrj (h j oj hj hji hj1 hrj.1)
                rw [hr.1] at this
                cases this
              · cases hgj : gval ops a oj with
                | true =>
                  by_cases hj3 : md j = 3
                  · exact h.2 A' (m3 hj3 hgj) h2
                  · exfalso
                    have := ready_anc hah ha hc hj hrj (h.1 j oj hj hji hj1 hj3 hrj.1)
                    rw [hr.1] at this
                    cases this
                | false => rw [m4 hgj]; exact h3
          · exact .inr h2

/-! ### The walk -/

def FWalk (P : Program) (S : AW → Prop) (fl : List FD) (K : Fr → AW → Prop) : List (Nat × LOp) → Fr → AW → Prop
  | [], a, A => K a A
  | (i, o) :: rest, a, A =>
    if sg a o.guard = true then
      if o.mode ≤ 1 then ∃ v, RD P fl i A (evF a) o.op v ∧ (o.mode = 1 → ∀ A', S A' → RD P fl i A' (evF a) o.op v) ∧ FWalk P S fl K rest (putF a o.dst v) A
      else AStep P o.op (evF a) (clm (clOf fl i) A) fun v A' => (o.mode = 3 → S A') ∧ FWalk P S fl K rest (putF a o.dst v) A'
    else FWalk P S fl K rest (putF a o.dst undef) A

def lopI (ops : Array Oper) (x : Nat × Nat) : Option (Nat × LOp) := (ops[x.1]?).map fun o => (x.1, ⟨o.dst, o.op, slimG ops o.guard, x.2⟩)
def lopsI (ops : Array Oper) (ord : List (Nat × Nat)) : List (Nat × LOp) := ord.filterMap (lopI ops)

/-- The operation that makes it, the operations that write its entries, the operation ahead of which it is taken in, the map's type. -/
structure FS where
  op : Nat
  ins : List Nat
  till : Nat
  t : TypeId
def memN : Nat → List Nat → Bool
  | _, [] => false
  | i, j :: l => match Nat.beq i j with | true => true | false => memN i l
theorem memN_iff {i : Nat} : ∀ {l : List Nat}, memN i l = true ↔ i ∈ l
  | [] => by simp [memN]
  | j :: l => by
    unfold memN
    split
    · rename_i h; simp [Nat.eq_of_beq_eq_true h]
    · rename_i h
      have : ¬ i = j := fun e => by subst e; rw [Nat.beq_refl] at h; cases h
      rw [memN_iff]; simp [this]
def isF (fss : List FS) (i : Nat) : Bool := fss.any fun s => Nat.beq s.op i || memN i s.ins
theorem isF_iff {fss : List FS} {i : Nat} : isF fss i = true ↔ ∃ s ∈ fss, s.op = i ∨ i ∈ s.ins := by
  simp only [isF, List.any_eq_true, Bool.or_eq_true, memN_iff, Nat.beq_eq]

def forcedF (ops : Array Oper) (anc : List Nat) (ord : List (Nat × Nat)) (M i : Nat) : Bool := (List.range ops.size).all fun j => j == i || M.testBit j || !(Nat.ble 2 (mdOf ord j)) || (anc.getD j 0).testBit i
def forced3F (ops : Array Oper) (anc : List Nat) (ord : List (Nat × Nat)) (M i : Nat) : Bool := (List.range ops.size).all fun j => j == i || M.testBit j || !(Nat.ble 2 (mdOf ord j)) || Nat.beq (mdOf ord j) 3 || (anc.getD j 0).testBit i

def linGoF (ops : Array Oper) (anc : List Nat) (ord : List (Nat × Nat)) (fss : List FS) : Nat → List (Nat × Nat) → Bool
  | M, [] => (List.range ops.size).all fun j => M.testBit j
  | M, (i, m) :: r => (match ops[i]? with
      | none => false
      | some o => readyB M i o && Nat.beq (mdOf ord i) m && (if Nat.ble m 1 then freeB ops M i o && ((Nat.beq m 1 && forced3F ops anc ord M i) || (memless o.op || isF fss i) || forcedF ops anc ord M i) else soleB ops M i)) && linGoF ops anc ord fss (M ||| 2 ^ i) r

def isIns (t : TypeId) : Op → Bool
  | .insert t' _ _ _ => Nat.beq t' t
  | _ => false
/-- One float's place in the region. -/
def fsOk (ops : Array Oper) (anc : List Nat) (ord : List (Nat × Nat)) (s : FS) : Bool :=
  Nat.ble (mdOf ord s.op) 1 && (match ops[s.op]? with | some o => o.guard.isNone | none => false) &&
  (s.ins.all fun q => Nat.ble (mdOf ord q) 1 && (anc.getD q 0).testBit s.op && (match ops[q]? with | some o => o.guard.isNone && isIns s.t o.op | none => false)) &&
  (Nat.beq s.till ops.size || (Nat.ble 2 (mdOf ord s.till) && (match ops[s.till]? with | some o => o.guard.isNone | none => false) && (anc.getD s.till 0).testBit s.op && s.ins.all fun q => (anc.getD s.till 0).testBit q))

def nodupN : List Nat → Bool
  | [] => true
  | i :: l => match memN i l with | true => false | false => nodupN l
theorem nodupN_iff : ∀ {l : List Nat}, nodupN l = true → l.Nodup
  | [], _ => List.nodup_nil
  | i :: l, h => by
    unfold nodupN at h
    split at h
    · cases h
    · rename_i h1
      exact List.nodup_cons.2 ⟨fun e => (by rw [memN_iff.2 e] at h1; exact absurd h1 (by simp)), nodupN_iff h⟩
def allF (fss : List FS) : List Nat := fss.flatMap fun s => s.op :: s.ins

/-- The order and the floats fit the region. -/
def linF (ops : Array Oper) (ord : List (Nat × Nat)) (fss : List FS) : Bool :=
  aheadOk ops && (let anc := ancL ops.toList []; ancOk ops anc && (linGoF ops anc ord fss 0 ord && (fss.all (fsOk ops anc ord) && nodupN (allF fss))))

theorem fany_of_walk (hah : aheadOk ops = true) (ha : ancOk ops anc = true) {ord : List (Nat × Nat)} {fss : List FS} (hfs : ∀ i, isF fss i = true → ∃ x ∈ fl, x.op = i ∨ ∃ q ∈ x.ins, q.1 = i) : ∀ (l : List (Nat × Nat)) (M : Nat) (L : Nat → Bool) (a : Fr) (A : AW),
    (∀ j, j < ops.size → L j = M.testBit j) → Closed ops L → linGoF ops anc ord fss M l = true → FWalk P S fl K (lopsI ops l) a A → FAny P ops S (mdOf ord) fl K l.length L a A
  | [], M, L, a, A, hL, hc, hg, h => ⟨fun j hj => by rw [hL j hj]; exact List.all_eq_true.1 hg j (List.mem_range.2 hj), h⟩
  | (i, m) :: r, M, L, a, A, hL, hc, hg, h => by
    unfold linGoF at hg
    rw [Bool.and_eq_true] at hg
    obtain ⟨hg1, hg2⟩ := hg
    cases hi : ops[i]? with
    | none => rw [hi] at hg1; cases hg1
    | some o =>
      rw [hi] at hg1
      simp only [Bool.and_eq_true] at hg1
      obtain ⟨⟨hr, hmd⟩, hcls⟩ := hg1
      have hil := (Array.getElem?_eq_some_iff.1 hi).1
      have hmd' : mdOf ord i = m := Nat.eq_of_beq_eq_true hmd
      have hrd : Rdy L i o := (readyB_spec hil hah hi hL).1 hr
      have hL' : ∀ j, j < ops.size → setL L i j = (M ||| 2 ^ i).testBit j := fun j hj => by
        rw [Nat.testBit_or, Nat.testBit_two_pow, ← hL j hj]
        unfold setL
        by_cases e : j = i
        · subst e; simp
        · have : ¬ i = j := fun x => e x.symm
          simp [e, this]
      have hc' := hc.set hi hrd
      have IH : ∀ a A, FWalk P S fl K (lopsI ops r) a A → FAny P ops S (mdOf ord) fl K r.length (setL L i) a A := fun a A h => fany_of_walk hah ha hfs r (M ||| 2 ^ i) _ a A hL' hc' hg2 h
      have hlop : lopsI ops ((i, m) :: r) = (i, ⟨o.dst, o.op, slimG ops o.guard, m⟩) :: lopsI ops r := by simp [lopsI, lopI, hi]
      rw [hlop] at h
      unfold FWalk at h
      simp only [← sg_eq] at h
      have hsole : ¬ m ≤ 1 → ∀ j oj, ops[j]? = some oj → Rdy L j oj → j = i := fun hm1 j oj hj hrj => by
        rw [if_neg (by simpa [Nat.ble_eq] using hm1)] at hcls
        have h1 := List.all_eq_true.1 hcls j (List.mem_range.2 (Array.getElem?_eq_some_iff.1 hj).1)
        rw [hj] at h1
        simp only [Bool.or_eq_true, beq_iff_eq, Bool.not_eq_true'] at h1
        rcases h1 with h1 | h1
        · exact h1
        · rw [(readyB_spec (Array.getElem?_eq_some_iff.1 hj).1 hah hj hL).2 hrj] at h1
          cases h1
      have hnall : ¬ ∀ j, j < ops.size → L j = true := fun hall => by
        have := hall i hil
        rw [hrd.1] at this
        cases this
      by_cases hm1 : m ≤ 1
      · rw [if_pos (by simpa [Nat.ble_eq] using hm1)] at hcls
        simp only [Bool.and_eq_true] at hcls
        obtain ⟨hfr, hst⟩ := hcls
        have hfree : ∀ j oj, ops[j]? = some oj → j ≠ i → L j = false → (∀ e ∈ oj.after, Region.binds .any e = true → e.on ≠ i) → o.apart ops oj = true := fun j oj hj hji hLj hno => by
          have hjl := (Array.getElem?_eq_some_iff.1 hj).1
          have h1 := List.all_eq_true.1 hfr j (List.mem_range.2 hjl)
          rw [hj, ← hL j hjl, hLj] at h1
          simp only [Bool.or_eq_true, beq_iff_eq, Bool.false_eq_true, or_false] at h1
          rcases h1 with h1 | h1 | h1
          · exact absurd h1 hji
          · exfalso
            rw [Array.any_eq_true] at h1
            obtain ⟨q, hq, h2⟩ := h1
            simp only [Bool.and_eq_true, beq_iff_eq] at h2
            exact hno _ (Array.getElem_mem hq) h2.1 h2.2
          · exact h1
        have fin : ∀ v, ((gval ops a o = true ∧ RD P fl i A (evF a) o.op v) ∨ (gval ops a o = false ∧ v = undef)) → (m = 1 → gval ops a o = true → ∀ A', S A' → RD P fl i A' (evF a) o.op v) →
            FWalk P S fl K (lopsI ops r) (putF a o.dst v) A → FAny P ops S (mdOf ord) fl K (r.length + 1) L a A := by
          intro v hy hS hk
          refine fany_first hah ha hi (by omega) r.length L a A hc hfree ?_ hrd hy (IH _ _ hk)
          simp only [Bool.or_eq_true] at hst
          rcases hst with (h1 | h1) | h1
          · rw [Bool.and_eq_true] at h1
            refine .inr (.inr ⟨fun j oj hj hji h3 h4 hLj => ?_, fun A' hA' hgv => hS (Nat.eq_of_beq_eq_true h1.1) hgv A' hA'⟩)
            have hjl := (Array.getElem?_eq_some_iff.1 hj).1
            have h2 := List.all_eq_true.1 h1.2 j (List.mem_range.2 hjl)
            rw [← hL j hjl, hLj] at h2
            have hb3 : Nat.ble 2 (mdOf ord j) = true := Nat.ble_eq_true_of_le h3
            have hb4 : Nat.beq (mdOf ord j) 3 = false := beq_no h4
            rw [hb3, hb4] at h2
            simpa [hji] using h2
          · rcases h1 with h1 | h1
            · exact .inl (.inl h1)
            · exact .inl (.inr (hfs i h1))
          · refine .inr (.inl fun j oj hj hji h3 hLj => ?_)
            have hjl := (Array.getElem?_eq_some_iff.1 hj).1
            have h2 := List.all_eq_true.1 h1 j (List.mem_range.2 hjl)
            rw [← hL j hjl, hLj] at h2
            have hb3 : Nat.ble 2 (mdOf ord j) = true := Nat.ble_eq_true_of_le h3
            rw [hb3] at h2
            simpa [hji] using h2
        split at h
        · rename_i hgv
          obtain ⟨v, hv, hS, hk⟩ := h
          exact fin v (.inl ⟨hgv, hv⟩) (fun e _ => hS e) hk
        · rename_i hgv
          have hgv' : gval ops a o = false := by simpa using hgv
          exact fin undef (.inr ⟨hgv', rfl⟩) (fun _ e => by rw [hgv'] at e; cases e) h
      · refine ⟨fun hall => absurd hall hnall, fun hw j oj hj hrj => ?_⟩
        have hji := hsole hm1 j oj hj hrj
        subst hji
        rw [hi] at hj
        injection hj with hj
        subst hj
        unfold FStp
        split at h
        · rename_i hgv
          rw [if_pos hgv, if_neg (by omega), hmd']
          exact h.mono fun v A' hh => ⟨hh.1, IH _ _ hh.2⟩
        · rename_i hgv
          rw [if_neg hgv]
          exact IH _ _ h
end

/-! ### The tables that a walk makes -/

section
def look {α : Type} : List (Nat × α) → Nat → Option α
  | [], _ => none
  | (k, v) :: l, i => match Nat.beq k i with | true => some v | false => look l i
theorem look_app {α : Type} : ∀ {l : List (Nat × α)} {i : Nat} {v : α} (r : List (Nat × α)), look l i = some v → look (l ++ r) i = some v
  | [], i, v, r, h => by cases h
  | (k, u) :: l, i, v, r, h => by
    simp only [List.cons_append]
    unfold look at h ⊢
    split
    · rename_i e; rw [e] at h; exact h
    · rename_i e; rw [e] at h; exact look_app r h
theorem look_new {α : Type} : ∀ {l : List (Nat × α)} {i : Nat} (v : α), look l i = none → look (l ++ [(i, v)]) i = some v
  | [], i, v, _ => by simp [look]
  | (k, u) :: l, i, v, h => by
    simp only [List.cons_append]
    unfold look at h ⊢
    split
    · rename_i e; rw [e] at h; cases h
    · rename_i e; rw [e] at h; exact look_new v h

abbrev FLt := List (Nat × Nat × FK × AObj)
abbrev ILt := List (Nat × Value × Value)
def insOf (IL : ILt) : List Nat → Option (List (Nat × Value × Value))
  | [] => some []
  | q :: r =>
    match look IL q with
    | none => none
    | some kv =>
      match insOf IL r with
      | none => none
      | some l => some ((q, kv) :: l)
def fdOf (FL : FLt) (IL : ILt) (s : FS) : Option FD :=
  match look FL s.op with
  | none => none
  | some (num, k, ob) =>
    match insOf IL s.ins with
    | none => none
    | some l => some ⟨s.op, num, k, ob, l, s.till⟩

theorem insOf_mono {IL IL' : ILt} (h : ∀ i v, look IL i = some v → look IL' i = some v) : ∀ {ins : List Nat} {l}, insOf IL ins = some l → insOf IL' ins = some l
  | [], l, e => e
  | q :: r, l, e => by
    unfold insOf at e ⊢
    split at e
    · cases e
    · rename_i kv hkv
      rw [h _ _ hkv]
      simp only
      split at e
      · cases e
      · rename_i l' hl'
        rw [insOf_mono h hl']
        exact e
theorem fdOf_mono {FL FL' : FLt} {IL IL' : ILt} (hF : ∀ i v, look FL i = some v → look FL' i = some v) (hI : ∀ i v, look IL i = some v → look IL' i = some v) {s : FS} {x : FD} (h : fdOf FL IL s = some x) : fdOf FL' IL' s = some x := by
  unfold fdOf at h ⊢
  split at h
  · cases h
  · rename_i num k ob h1
    rw [hF _ _ h1]
    simp only
    split at h
    · cases h
    · rename_i l hl
      rw [insOf_mono hI hl]
      exact h
theorem insOf_mem {IL : ILt} : ∀ {ins : List Nat} {l}, insOf IL ins = some l → l.map (·.1) = ins ∧ ∀ q ∈ l, look IL q.1 = some q.2
  | [], l, e => by
    unfold insOf at e
    injection e with e
    subst e
    exact ⟨rfl, fun q hq => by cases hq⟩
  | q :: r, l, e => by
    unfold insOf at e
    split at e
    · cases e
    · rename_i kv hkv
      split at e
      · cases e
      · rename_i l' hl'
        injection e with e
        subst e
        obtain ⟨h1, h2⟩ := insOf_mem hl'
        refine ⟨by simp [h1], fun z hz => ?_⟩
        rcases List.mem_cons.1 hz with rfl | hz
        · exact hkv
        · exact h2 z hz
theorem fdOf_spec {FL : FLt} {IL : ILt} {s : FS} {x : FD} (h : fdOf FL IL s = some x) : x.op = s.op ∧ x.till = s.till ∧ look FL s.op = some (x.num, x.k, x.ob) ∧ x.ins.map (·.1) = s.ins ∧ ∀ q ∈ x.ins, look IL q.1 = some q.2 := by
  unfold fdOf at h
  split at h
  · cases h
  · rename_i num k ob h1
    split at h
    · cases h
    · rename_i l hl
      injection h with h
      subst h
      obtain ⟨h2, h3⟩ := insOf_mem hl
      exact ⟨rfl, rfl, h1, h2, h3⟩

def claimR (FL : FLt) (IL : ILt) (i : Nat) : List FS → EM → Option EM
  | [], m => some m
  | s :: r, m =>
    match Nat.beq s.till i with
    | false => claimR FL IL i r m
    | true =>
      match fdOf FL IL s with
      | none => none
      | some x =>
        match Nat.ble x.num 1000000 with
        | false => none
        | true => fObj (some x.full) fun o => fTr (m.t.put 24 (x.num + 1) o) fun t => claimR FL IL i r ⟨m.next, t⟩

theorem EM.put_aw {m : EM} {j : Nat} {o : Option AObj} (hj : Nat.ble j 1000000 = true) : (⟨m.next, m.t.put 24 (j + 1) o⟩ : EM).aw = m.aw.set j o := by
  have hj : j ≤ 1000000 := Nat.le_of_ble_eq_true hj
  unfold EM.aw AW.set
  congr 1
  funext i
  rw [Tr.get_put 24 m.t (j + 1) o (i + 1) (Nat.le_add_left 1 j) (Nat.lt_of_le_of_lt (Nat.succ_le_succ hj) (by decide)) (Nat.le_add_left 1 i)]
  by_cases e : i = j
  · subst e; simp
  · rw [if_neg (by omega), if_neg e]

theorem claimR_eq {FL FLf : FLt} {IL ILf : ILt} (hF : ∀ i v, look FL i = some v → look FLf i = some v) (hI : ∀ i v, look IL i = some v → look ILf i = some v) {i : Nat} : ∀ (fss : List FS) (m : EM) {m0 : EM}, claimR FL IL i fss m = some m0 →
    m0.aw = clm (clOf (fss.filterMap (fdOf FLf ILf)) i) m.aw
  | [], m, m0, h => by
    unfold claimR at h
    injection h with h
    subst h
    rfl
  | s :: r, m, m0, h => by
    unfold claimR at h
    split at h
    · rename_i e
      have ih := claimR_eq hF hI r m h
      rw [ih]
      cases hs : fdOf FLf ILf s with
      | none => rw [List.filterMap_cons_none hs]
      | some x =>
        rw [List.filterMap_cons_some hs]
        have hne : (x.till == i) = false := by
          rw [(fdOf_spec hs).2.1]
          exact beq_eq_false_iff_ne.2 fun e2 => by rw [e2, Nat.beq_refl] at e; cases e
        unfold clOf
        rw [List.filter_cons, hne]
        rfl
    · rename_i e
      split at h
      · cases h
      · rename_i x hx
        split at h
        · cases h
        · rename_i hb
          rw [fObj_eq, fTr_eq] at h
          have ih := claimR_eq hF hI r _ h
          rw [ih]
          have hs := fdOf_mono hF hI hx
          rw [List.filterMap_cons_some hs]
          have he : (x.till == i) = true := by
            rw [(fdOf_spec hs).2.1]
            exact beq_iff_eq.2 (Nat.eq_of_beq_eq_true e)
          unfold clOf
          rw [List.filter_cons, he]
          simp only [if_true]
          rw [clm_cons, EM.put_aw hb]
          rfl

def findOp : List FS → Nat → Option FS
  | [], _ => none
  | s :: r, i => match Nat.beq s.op i with | true => some s | false => findOp r i
theorem findOp_some : ∀ {fss : List FS} {i : Nat} {s : FS}, findOp fss i = some s → s ∈ fss ∧ s.op = i
  | [], i, s, h => by cases h
  | y :: r, i, s, h => by
    unfold findOp at h
    split at h
    · rename_i e
      injection h with h
      subst h
      exact ⟨by simp, Nat.eq_of_beq_eq_true e⟩
    · obtain ⟨h1, h2⟩ := findOp_some h
      exact ⟨by simp [h1], h2⟩
theorem findOp_none : ∀ {fss : List FS} {i : Nat}, findOp fss i = none → ∀ s ∈ fss, s.op ≠ i
  | [], i, h, s, hs => by cases hs
  | y :: r, i, h, s, hs => by
    unfold findOp at h
    split at h
    · cases h
    · rename_i e
      rcases List.mem_cons.1 hs with rfl | hs
      · exact fun e2 => by rw [e2, Nat.beq_refl] at e; cases e
      · exact findOp_none h s hs
def findIns : List FS → Nat → Option FS
  | [], _ => none
  | s :: r, i => match memN i s.ins with | true => some s | false => findIns r i
theorem findIns_some : ∀ {fss : List FS} {i : Nat} {s : FS}, findIns fss i = some s → s ∈ fss ∧ i ∈ s.ins
  | [], i, s, h => by cases h
  | y :: r, i, s, h => by
    unfold findIns at h
    split at h
    · rename_i e
      injection h with h
      subst h
      exact ⟨by simp, memN_iff.1 e⟩
    · obtain ⟨h1, h2⟩ := findIns_some h
      exact ⟨by simp [h1], h2⟩
theorem findIns_none : ∀ {fss : List FS} {i : Nat}, findIns fss i = none → ∀ s ∈ fss, i ∉ s.ins
  | [], i, h, s, hs => by cases hs
  | y :: r, i, h, s, hs => by
    unfold findIns at h
    split at h
    · cases h
    · rename_i e
      rcases List.mem_cons.1 hs with rfl | hs
      · exact fun e2 => by rw [memN_iff.2 e2] at e; cases e
      · exact findIns_none h s hs

/-! ### The walk, run -/

def evEnt (r : Operand → Value) (FL : FLt) (s : FS) (op : Op) : Option (Value × Value) :=
  match op with
  | .insert t X Y V =>
    match Nat.beq t s.t with
    | false => none
    | true =>
      match r X with
      | .map (some j) =>
        match look FL s.op with
        | some (num, _, .map [] true) => match Nat.beq j num with | true => some (r Y, r V) | false => none
        | _ => none
      | _ => none
  | _ => none

theorem evEnt_spec {r : Operand → Value} {FL : FLt} {s : FS} {op : Op} {y v : Value} (h : evEnt r FL s op = some (y, v)) : ∃ X Y V num k, op = .insert s.t X Y V ∧ look FL s.op = some (num, k, .map [] true) ∧ r X = .map (some num) ∧ r Y = y ∧ r V = v := by
  unfold evEnt at h
  split at h
  · rename_i t X Y V
    split at h
    · cases h
    · rename_i e
      have e := Nat.eq_of_beq_eq_true e
      subst e
      split at h
      · rename_i j hX
        split at h
        · rename_i num k hl
          split at h
          · rename_i e2
            have e2 := Nat.eq_of_beq_eq_true e2
            subst e2
            simp only [Option.some.injEq, Prod.mk.injEq] at h
            exact ⟨X, Y, V, j, k, rfl, hl, hX, h.1, h.2⟩
          · cases h
        · cases h
      · cases h
  · cases h

def evLinF (P : Program) (call : ECall) (fss : List FS) : List (Nat × LOp) → Nat → FLt → ILt → FT → EM → Option (FT × EM × List Rd × List EM × FLt × ILt)
  | [], _, FL, IL, a, m => some (a, m, [], [], FL, IL)
  | (i, o) :: rest, b, FL, IL, a, m =>
    match smallT o.dst with
    | false => none
    | true =>
      match sg a.fr o.guard with
      | true =>
        match Nat.ble o.mode 1 with
        | true =>
          match findOp fss i with
          | some s =>
            match look FL i with
            | some _ => none
            | none =>
              match mkO P (evF a.fr) o.op with
              | some (k, ob) => fObj (some ob) fun oo => match oo with
                | some ob => fVal (k.val b) fun v => putT a o.dst v fun a' => evLinF P call fss rest (b + 1) (FL ++ [(i, b, k, ob)]) IL a' m
                | none => none
              | none => none
          | none =>
            match findIns fss i with
            | some s =>
              match look IL i with
              | some _ => none
              | none =>
                match evEnt (evF a.fr) FL s o.op with
                | some (y, v) => fVal y fun y => fVal v fun v => putT a o.dst undef fun a' => evLinF P call fss rest b FL (IL ++ [(i, y, v)]) a' m
                | none => none
            | none =>
              match aqX P m.aw (evF a.fr) o.op with
              | some v => fVal v fun v => putT a o.dst v fun a' =>
                match evLinF P call fss rest b FL IL a' m with
                | some (a2, m2, rs, ms, F, I) => some (a2, m2, (match Nat.beq o.mode 1 with | true => (o.op, a, v) :: rs | false => rs), ms, F, I)
                | none => none
              | none => none
        | false =>
          match claimR FL IL i fss m with
          | none => none
          | some m0 =>
            match evOp P call (evF a.fr) o.op m0 with
            | some (v, m') => putT a o.dst v fun a' =>
              match evLinF P call fss rest b FL IL a' m' with
              | some (a2, m2, rs, ms, F, I) => some (a2, m2, rs, (match Nat.beq o.mode 3 with | true => m' :: ms | false => ms), F, I)
              | none => none
            | none => none
      | false => putT a o.dst undef fun a' => evLinF P call fss rest b FL IL a' m

/-- What the walk of the rest says, and that it only adds to the tables. -/
theorem evLinF_sound {P : Program} {call : ECall} (hc : call.Ok P) {S : AW → Prop} {K : Fr → AW → Prop} {fss : List FS} {FLf : FLt} {ILf : ILt}
    (hall : ∀ s ∈ fss, ∃ x, fdOf FLf ILf s = some x) (hty : ∀ s ∈ fss, ∀ x, fdOf FLf ILf s = some x → s.ins ≠ [] → TyOk P s.t x) : ∀ (l : List (Nat × LOp)) (b : Nat) (FL : FLt) (IL : ILt) (a : FT) (m : EM) {a' : FT} {m' : EM} {rs : List Rd} {ms : List EM} {FL' : FLt} {IL' : ILt},
    evLinF P call fss l b FL IL a m = some (a', m', rs, ms, FL', IL') →
    (∀ i v, look FL i = some v → look FL' i = some v) ∧ (∀ i v, look IL i = some v → look IL' i = some v) ∧
    ((∀ i v, look FL' i = some v → look FLf i = some v) → (∀ i v, look IL' i = some v → look ILf i = some v) →
      (∀ x ∈ rs, ∀ A', S A' → aq P A' (evF x.2.1.fr) x.1 = some x.2.2) → (∀ m ∈ ms, S m.aw) → K a'.fr m'.aw → FWalk P S (fss.filterMap (fdOf FLf ILf)) K l a.fr m.aw)
  | [], b, FL, IL, a, m, a', m', rs, ms, FL', IL', h => by
    simp only [evLinF, Option.some.injEq, Prod.mk.injEq] at h
    obtain ⟨rfl, rfl, _, _, rfl, rfl⟩ := h
    exact ⟨fun _ _ h => h, fun _ _ h => h, fun _ _ _ _ hk => hk⟩
  | (i, o) :: rest, b, FL, IL, a, m, a', m', rs, ms, FL', IL', h => by
    unfold evLinF at h
    unfold FWalk
    split at h
    · cases h
    · rename_i hd
      split at h
      · rename_i hg
        rw [if_pos hg]
        split at h
        · rename_i hmo
          have hle : o.mode ≤ 1 := Nat.le_of_ble_eq_true hmo
          rw [if_pos hle]
          split at h
          · -- a float
            rename_i s hs
            obtain ⟨hs1, hs2⟩ := findOp_some hs
            split at h
            · cases h
            · rename_i hnone
              split at h
              · rename_i k ob hmk
                rw [fObj_eq] at h
                simp only at h
                rw [fVal_eq] at h
                obtain ⟨a1, h1, h2⟩ := putT_eq (a := a) (v := k.val b) (c := fun a' => evLinF P call fss rest (b + 1) (FL ++ [(i, b, k, ob)]) IL a' m) hd
                rw [h1] at h
                obtain ⟨e1, e2, e3⟩ := evLinF_sound hc (S := S) (K := K) hall hty rest _ _ _ a1 m h
                refine ⟨fun j v hv => e1 j v (look_app _ hv), e2, fun hF hI hr hm hk => ?_⟩
                obtain ⟨x, hx⟩ := hall s hs1
                obtain ⟨g1, g2, g3, g4, g5⟩ := fdOf_spec hx
                have g6 := hF _ _ (e1 _ _ (look_new (b, k, ob) hnone))
                rw [hs2, g6] at g3
                simp only [Option.some.injEq, Prod.mk.injEq] at g3
                obtain ⟨rfl, rfl, rfl⟩ := g3
                have hrd : ∀ A', RD P (fss.filterMap (fdOf FLf ILf)) i A' (evF a.fr) o.op (x.k.val x.num) := fun A' =>
                  .inl ⟨x, List.mem_filterMap.2 ⟨s, hs1, hx⟩, g1.trans hs2, hmk, rfl⟩
                refine ⟨x.k.val x.num, hrd _, fun _ A' _ => hrd A', ?_⟩
                rw [← h2]
                exact e3 hF hI hr hm hk
              · cases h
          · rename_i hno
            split at h
            · -- an entry
              rename_i s hs
              obtain ⟨hs1, hs2⟩ := findIns_some hs
              split at h
              · cases h
              · rename_i hnone
                split at h
                · rename_i y v hen
                  rw [fVal_eq, fVal_eq] at h
                  obtain ⟨a1, h1, h2⟩ := putT_eq (a := a) (v := undef) (c := fun a' => evLinF P call fss rest b FL (IL ++ [(i, y, v)]) a' m) hd
                  rw [h1] at h
                  obtain ⟨e1, e2, e3⟩ := evLinF_sound hc (S := S) (K := K) hall hty rest _ _ _ a1 m h
                  refine ⟨e1, fun j v hv => e2 j v (look_app _ hv), fun hF hI hr hm hk => ?_⟩
                  obtain ⟨x, hx⟩ := hall s hs1
                  obtain ⟨g1, g2, g3, g4, g5⟩ := fdOf_spec hx
                  obtain ⟨X, Y, V, num, k, f1, f2, f3, f4, f5⟩ := evEnt_spec hen
                  have g6 := hI _ _ (e2 _ _ (look_new (y, v) hnone))
                  have g7 := hF _ _ (e1 _ _ f2)
                  rw [g7] at g3
                  simp only [Option.some.injEq, Prod.mk.injEq] at g3
                  obtain ⟨rfl, rfl, g8⟩ := g3
                  have hmem : i ∈ x.ins.map (·.1) := by rw [g4]; exact hs2
                  obtain ⟨q, hq, hqi⟩ := List.mem_map.1 hmem
                  have hq2 := g5 q hq
                  rw [hqi, g6] at hq2
                  injection hq2 with hq2
                  have hrd : ∀ A', RD P (fss.filterMap (fdOf FLf ILf)) i A' (evF a.fr) o.op undef := fun A' =>
                    .inr (.inl ⟨x, List.mem_filterMap.2 ⟨s, hs1, hx⟩, q, hq, hqi, ⟨s.t, X, Y, V, f1, hty s hs1 x hx (fun e => by rw [e] at hs2; cases hs2), g8.symm, f3, by rw [f4, ← hq2], by rw [f5, ← hq2]⟩, rfl⟩)
                  refine ⟨undef, hrd _, fun _ A' _ => hrd A', ?_⟩
                  rw [← h2]
                  exact e3 hF hI hr hm hk
                · cases h
            · rename_i hni
              rw [aqX_eq] at h
              split at h
              · rename_i v hv
                rw [fVal_eq] at h
                obtain ⟨a1, h1, h2⟩ := putT_eq (a := a) (v := v) (c := fun a' => match evLinF P call fss rest b FL IL a' m with
                  | some (a2, m2, rs, ms, F, I) => some (a2, m2, (match Nat.beq o.mode 1 with | true => ((o.op, a, v) : Rd) :: rs | false => rs), ms, F, I)
                  | none => none) hd
                rw [h1] at h
                split at h
                · rename_i a2 m2 rs1 ms1 F I hrest
                  simp only [Option.some.injEq, Prod.mk.injEq] at h
                  obtain ⟨rfl, rfl, hrs, rfl, rfl, rfl⟩ := h
                  obtain ⟨e1, e2, e3⟩ := evLinF_sound hc (S := S) (K := K) hall hty rest _ _ _ a1 m hrest
                  refine ⟨e1, e2, fun hF hI hr hm hk => ?_⟩
                  have hnf : ∀ x ∈ fss.filterMap (fdOf FLf ILf), x.op ≠ i ∧ ∀ q ∈ x.ins, q.1 ≠ i := fun x hx => by
                    obtain ⟨s, hs, hfx⟩ := List.mem_filterMap.1 hx
                    obtain ⟨g1, _, _, g4, _⟩ := fdOf_spec hfx
                    refine ⟨by rw [g1]; exact findOp_none hno s hs, fun q hq e => findIns_none hni s hs ?_⟩
                    rw [← g4, ← e]
                    exact List.mem_map_of_mem hq
                  refine ⟨v, .inr (.inr ⟨hnf, hv⟩), fun e A' hA' => .inr (.inr ⟨hnf, ?_⟩), ?_⟩
                  · rw [e] at hrs
                    simp only [Nat.beq] at hrs
                    subst hrs
                    exact hr (o.op, a, v) (by simp) A' hA'
                  · rw [← h2]
                    refine e3 hF hI (fun x hx => hr x ?_) hm hk
                    have hmode : o.mode = 0 ∨ o.mode = 1 := by omega
                    rcases hmode with e | e <;> rw [e] at hrs <;> simp only [Nat.beq] at hrs <;> subst hrs
                    · exact hx
                    · exact List.mem_cons_of_mem _ hx
                · cases h
              · cases h
        · rename_i hmo
          have hgt : ¬ o.mode ≤ 1 := fun hle => by rw [Nat.ble_eq_true_of_le hle] at hmo; cases hmo
          rw [if_neg hgt]
          split at h
          · cases h
          · rename_i m0 hcl
            split at h
            · rename_i v m1 hv
              obtain ⟨a1, h1, h2⟩ := putT_eq (a := a) (v := v) (c := fun a' => match evLinF P call fss rest b FL IL a' m1 with
                | some (a2, m2, rs, ms, F, I) => some (a2, m2, rs, (match Nat.beq o.mode 3 with | true => m1 :: ms | false => ms), F, I)
                | none => none) hd
              rw [h1] at h
              split at h
              · rename_i a2 m2 rs1 ms1 F I hrest
                simp only [Option.some.injEq, Prod.mk.injEq] at h
                obtain ⟨rfl, rfl, rfl, hms, rfl, rfl⟩ := h
                obtain ⟨e1, e2, e3⟩ := evLinF_sound hc (S := S) (K := K) hall hty rest _ _ _ a1 m1 hrest
                refine ⟨e1, e2, fun hF hI hr hm hk => ?_⟩
                have hcm := claimR_eq (fun i v h => hF i v (e1 i v h)) (fun i v h => hI i v (e2 i v h)) _ _ hcl
                rw [← hcm]
                refine evOp_sound hc hv ⟨fun e => ?_, ?_⟩
                · rw [e] at hms
                  simp only [Nat.beq] at hms
                  subst hms
                  exact hm m1 (by simp)
                · rw [← h2]
                  refine e3 hF hI hr (fun x hx => hm x ?_) hk
                  rw [← hms]
                  split
                  · exact List.mem_cons_of_mem _ hx
                  · exact hx
              · cases h
            · cases h
      · rename_i hg
        have hg' : ¬ sg a.fr o.guard = true := by rw [hg]; simp
        rw [if_neg hg']
        obtain ⟨a1, h1, h2⟩ := putT_eq (a := a) (v := undef) (c := fun a' => evLinF P call fss rest b FL IL a' m) hd
        rw [h1] at h
        obtain ⟨e1, e2, e3⟩ := evLinF_sound hc (S := S) (K := K) hall hty rest _ _ _ a1 m h
        rw [← h2]
        exact ⟨e1, e2, e3⟩
end


/-! ### A region with floats -/

theorem setL_out {S : Nat → Bool} {i n : Nat} (h : ∀ j, n ≤ j → S j = false) (hi : i < n) : ∀ j, n ≤ j → setL S i j = false := fun j hj => by
  have : j ≠ i := by omega
  simp [setL, this, h j hj]


def keysB (d : TypeDesc) : List (Nat × Value × Value) → Bool
  | [] => true
  | q :: r => (r.all fun z => (match Instr.sameNow d q.2.1 z.2.1 with | some false => true | _ => false) && (match Instr.sameNow d z.2.1 q.2.1 with | some false => true | _ => false)) && keysB d r
theorem keysB_spec {d : TypeDesc} : ∀ {l : List (Nat × Value × Value)}, keysB d l = true → ∀ q ∈ l, ∀ z ∈ l, q.1 ≠ z.1 → Instr.sameNow d q.2.1 z.2.1 = some false
  | [], _, q, hq, _, _, _ => by cases hq
  | x :: r, h, q, hq, z, hz, hne => by
    simp only [keysB, Bool.and_eq_true, List.all_eq_true] at h
    have get : ∀ {o : Option Bool}, (match o with | some false => true | _ => false) = true → o = some false := fun {o} h => by
      split at h
      · rfl
      · cases h
    rcases List.mem_cons.1 hq with hq1 | hq1
    · rcases List.mem_cons.1 hz with hz1 | hz1
      · exact absurd (by rw [hq1, hz1]) hne
      · rw [hq1]; exact get (h.1 z hz1).1
    · rcases List.mem_cons.1 hz with hz1 | hz1
      · rw [hz1]; exact get (h.1 q hq1).2
      · exact keysB_spec h.2 q hq1 z hz1 hne
def tyB (P : Program) (t : TypeId) (x : FD) : Bool :=
  match P.underlying t with
  | some (.map kt _) =>
    match P.underlying kt with
    | some d => isKeyDesc d && keysB d x.ins
    | none => false
  | _ => false
theorem tyB_ok {P : Program} {t : TypeId} {x : FD} (h : tyB P t x = true) : TyOk P t x := by
  unfold tyB at h
  split at h
  · rename_i kt e h1
    split at h
    · rename_i d h2
      simp only [Bool.and_eq_true] at h
      exact ⟨kt, e, d, h1, h2, h.1, keysB_spec h.2⟩
    · cases h
  · cases h

/-- The floats of the whole region, seen at its end. -/
def flChk (P : Program) (base nb : Nat) (FL : FLt) (IL : ILt) : List FS → List Nat → Bool
  | [], _ => true
  | s :: r, seen =>
    match fdOf FL IL s with
    | none => false
    | some x =>
      match Nat.ble base x.num with
      | false => false
      | true =>
        match Nat.ble (x.num + 1) (base + nb) with
        | false => false
        | true =>
          match memN x.num seen with
          | true => false
          | false =>
            match s.ins with
            | [] => flChk P base nb FL IL r (x.num :: seen)
            | _ :: _ => match tyB P s.t x with | true => flChk P base nb FL IL r (x.num :: seen) | false => false

theorem flChk_spec {P : Program} {base nb : Nat} {FL : FLt} {IL : ILt} : ∀ {fss : List FS} {seen : List Nat}, flChk P base nb FL IL fss seen = true →
    (∀ s ∈ fss, ∃ x, fdOf FL IL s = some x ∧ base ≤ x.num ∧ x.num < base + nb ∧ x.num ∉ seen ∧ (s.ins ≠ [] → TyOk P s.t x)) ∧ ((fss.filterMap (fdOf FL IL)).map (·.num)).Nodup
  | [], seen, _ => ⟨fun s hs => (by cases hs), by simp⟩
  | s :: r, seen, h => by
    unfold flChk at h
    split at h
    · cases h
    · rename_i x hx
      split at h
      · cases h
      · rename_i h1
        split at h
        · cases h
        · rename_i h2
          split at h
          · cases h
          · rename_i h3
            have hns : x.num ∉ seen := fun e => by rw [memN_iff.2 e] at h3; cases h3
            have main : ∀ (hr : flChk P base nb FL IL r (x.num :: seen) = true) (ht : s.ins ≠ [] → TyOk P s.t x), (∀ s' ∈ s :: r, ∃ x, fdOf FL IL s' = some x ∧ base ≤ x.num ∧ x.num < base + nb ∧ x.num ∉ seen ∧ (s'.ins ≠ [] → TyOk P s'.t x)) ∧
                (((s :: r).filterMap (fdOf FL IL)).map (·.num)).Nodup := by
              intro hr ht
              obtain ⟨g1, g2⟩ := flChk_spec hr
              refine ⟨fun s' hs' => ?_, ?_⟩
              · rcases List.mem_cons.1 hs' with rfl | hs'
                · exact ⟨x, hx, Nat.le_of_ble_eq_true h1, Nat.le_of_ble_eq_true h2, hns, ht⟩
                · obtain ⟨y, k1, k2, k3, k4, k5⟩ := g1 s' hs'
                  exact ⟨y, k1, k2, k3, fun e => k4 (by simp [e]), k5⟩
              · rw [List.filterMap_cons_some hx, List.map_cons, List.nodup_cons]
                refine ⟨fun e => ?_, g2⟩
                obtain ⟨y, hy, hyx⟩ := List.mem_map.1 e
                obtain ⟨s', hs', hy'⟩ := List.mem_filterMap.1 hy
                obtain ⟨z, k1, _, _, k4, _⟩ := g1 s' hs'
                rw [hy'] at k1
                injection k1 with k1
                subst k1
                exact k4 (by simp [hyx])
            split at h
            · rename_i hi
              exact main h fun e => absurd hi e
            · split at h
              · rename_i ht
                exact main h fun _ => tyB_ok ht
              · cases h

theorem pairwise_mem {α : Type} {R : α → α → Prop} : ∀ {l : List α}, l.Pairwise R → ∀ x ∈ l, ∀ y ∈ l, x ≠ y → R x y ∨ R y x
  | [], _, x, hx, _, _, _ => by cases hx
  | a :: l, h, x, hx, y, hy, hne => by
    rw [List.pairwise_cons] at h
    rcases List.mem_cons.1 hx with hx1 | hx1
    · rcases List.mem_cons.1 hy with hy1 | hy1
      · exact absurd (hx1.trans hy1.symm) hne
      · rw [hx1]; exact .inl (h.1 y hy1)
    · rcases List.mem_cons.1 hy with hy1 | hy1
      · rw [hy1]; exact .inr (h.1 x hx1)
      · exact pairwise_mem h.2 x hx1 y hy1 hne

theorem mkO_map {P : Program} {r : Operand → Value} {op : Op} {k : FK} {es : List (Value × Value)} {own : Bool} (h : mkO P r op = some (k, .map es own)) : es = [] := by
  cases op <;> simp only [mkO] at h <;> (try (cases h; done))
  all_goals (
    repeat' (split at h)
    all_goals (try (cases h; done))
    all_goals (first | rfl | (simp only [Option.some.injEq, Prod.mk.injEq] at h; obtain ⟨_, h⟩ := h; cases h; rfl) | (simp only [Option.some.injEq, Prod.mk.injEq] at h; obtain ⟨_, h⟩ := h; cases h)))

def evReg (P : Program) (call : ECall) (ops : Array Oper) (ord : List (Nat × Nat)) (fss : List FS) (a : FT) (m : EM) : Option (FT × EM) :=
  fNat (m.next + fss.length) fun n =>
  match evLinF P call fss (lopsI ops ord) m.next [] [] a ⟨n, m.t⟩ with
  | some (a', m', rs, ms, FL, IL) =>
    match rdsOk P rs ms with
    | false => none
    | true =>
      match flChk P m.next fss.length FL IL fss [] with
      | false => none
      | true =>
        match claimR FL IL ops.size fss m' with
        | some m2 => some (a', m2)
        | none => none
  | none => none

/-- The rule for a walk: floats that fit the places which the table names. -/
theorem awp_fwalk {P : Program} (hmx : P.follows .mixedOrders = true) {nt : Nat} {id : Nat} {ops : Array Oper} {ord : List (Nat × Nat)} {fss : List FS} (hB : linF ops ord fss = true) (fl : List FD) (M : FS → FD → Prop)
    (hspec : ∀ s x, M s x → x.op = s.op ∧ x.till = s.till ∧ x.ins.map (·.1) = s.ins) (hone : ∀ s x y, M s x → M s y → x = y) (hfl : ∀ x ∈ fl, ∃ s ∈ fss, M s x) (hall : ∀ s ∈ fss, ∃ x ∈ fl, M s x)
    {a : Fr} {A : AW} {nb : Nat} (hrange : ∀ x ∈ fl, A.next ≤ x.num ∧ x.num < A.next + nb) (hnums : (fl.map (·.num)).Nodup) (S0 : AW → Prop) {Q : Exit → Fr → AW → Prop}
    (hwalk : FWalk P S0 fl (fun a' A' => Q .normal a' (clm (clOf fl ops.size) A')) (lopsI ops ord) a (A.bump nb)) : AWP P nt (.region id ops true) Q a A := by
  simp only [linF, Bool.and_eq_true] at hB
  obtain ⟨hah, ha, hgo, hfs, hnd⟩ := hB
  have hnd := nodupN_iff hnd
  unfold allF at hnd
  rw [List.Nodup, List.pairwise_flatMap] at hnd
  obtain ⟨hnd1, hnd2⟩ := hnd
  have hself : ∀ s ∈ fss, s.op ∉ s.ins ∧ s.ins.Nodup := fun s hs => by
    have := hnd1 s hs
    rw [List.pairwise_cons] at this
    exact ⟨fun e => this.1 _ e rfl, this.2⟩
  have hdisj : ∀ s ∈ fss, ∀ s' ∈ fss, s ≠ s' → ∀ i ∈ s.op :: s.ins, ∀ j ∈ s'.op :: s'.ins, i ≠ j := fun s hs s' hs' hne i hi j hj => by
    rcases pairwise_mem hnd2 s hs s' hs' hne with e | e
    · exact e i hi j hj
    · exact Ne.symm (e j hj i hi)
  have hsame : ∀ x ∈ fl, ∀ y ∈ fl, ∀ s ∈ fss, M s x → M s y → x = y := fun x _ y _ s _ h1 h2 => hone s x y h1 h2
  have hpl : ∀ s ∈ fss, fsOk ops (ancL ops.toList []) ord s = true := fun s hs => List.all_eq_true.1 hfs s hs
  -- what the table says of one float
  have hop : ∀ s ∈ fss, mdOf ord s.op ≤ 1 ∧ ∃ o, ops[s.op]? = some o ∧ o.guard = none := fun s hs => by
    have := hpl s hs
    simp only [fsOk, Bool.and_eq_true] at this
    obtain ⟨⟨⟨k1, k2⟩, _⟩, _⟩ := this
    refine ⟨Nat.le_of_ble_eq_true k1, ?_⟩
    split at k2
    · rename_i o ho; exact ⟨o, ho, by simpa using k2⟩
    · cases k2
  have hinq : ∀ s ∈ fss, ∀ q ∈ s.ins, mdOf ord q ≤ 1 ∧ ((ancL ops.toList []).getD q 0).testBit s.op = true ∧ ∃ o, ops[q]? = some o ∧ o.guard = none := fun s hs q hq => by
    have := hpl s hs
    simp only [fsOk, Bool.and_eq_true, List.all_eq_true] at this
    obtain ⟨⟨_, k3⟩, _⟩ := this
    obtain ⟨⟨k4, k5⟩, k6⟩ := k3 q hq
    refine ⟨Nat.le_of_ble_eq_true k4, k5, ?_⟩
    split at k6
    · rename_i o ho
      simp only [Bool.and_eq_true] at k6
      exact ⟨o, ho, by simpa using k6.1⟩
    · cases k6
  have htl : ∀ s ∈ fss, s.till = ops.size ∨ (2 ≤ mdOf ord s.till ∧ (∃ o, ops[s.till]? = some o ∧ o.guard = none) ∧ ((ancL ops.toList []).getD s.till 0).testBit s.op = true ∧ ∀ q ∈ s.ins, ((ancL ops.toList []).getD s.till 0).testBit q = true) := fun s hs => by
    have := hpl s hs
    simp only [fsOk, Bool.and_eq_true, Bool.or_eq_true, List.all_eq_true] at this
    rcases this.2 with k | ⟨⟨⟨k1, k2⟩, k3⟩, k4⟩
    · exact .inl (Nat.eq_of_beq_eq_true k)
    · refine .inr ⟨Nat.le_of_ble_eq_true k1, ?_, k3, k4⟩
      split at k2
      · rename_i o ho; exact ⟨o, ho, by simpa using k2⟩
      · cases k2
  have hlt : ∀ {i : Nat} {o : Oper}, ops[i]? = some o → i < ops.size := fun h => (Array.getElem?_eq_some_iff.1 h).1
  have hmem : ∀ {s x}, M s x → ∀ q ∈ x.ins, q.1 ∈ s.ins := fun {s x} hx q hq => by
    rw [← (hspec _ _ hx).2.2]; exact List.mem_map_of_mem hq
  have hnotill : ∀ s ∈ fss, ∀ s' ∈ fss, ∀ i, (i = s.op ∨ i ∈ s.ins) → i ≠ s'.till := fun s hs s' hs' i hi e => by
    have hm : mdOf ord i ≤ 1 ∧ i < ops.size := by
      rcases hi with hi | hi
      · subst hi; obtain ⟨k1, o, k2, _⟩ := hop s hs; exact ⟨k1, hlt k2⟩
      · obtain ⟨k1, _, o, k2, _⟩ := hinq s hs i hi; exact ⟨k1, hlt k2⟩
    rcases htl s' hs' with k | ⟨k, _⟩
    · omega
    · rw [← e] at k; omega
  have hok : FlOk fl := by
    refine ⟨fun x hx y hy e => ?_, fun x hx y hy e => ?_, fun x hx y hy q hq => ?_, fun x hx y hy e => ?_, ?_⟩
    · obtain ⟨s, hs, hsx⟩ := hfl x hx
      obtain ⟨s', hs', hsy⟩ := hfl y hy
      by_cases es : s = s'
      · subst es; exact hsame x hx y hy s hs hsx hsy
      · exfalso
        refine hdisj s hs s' hs' es s.op (by simp) s'.op (by simp) ?_
        rw [← (hspec _ _ hsx).1, ← (hspec _ _ hsy).1]
        exact e
    · by_cases exy : x = y
      · exact exy
      · exfalso
        have := pairwise_mem (List.pairwise_map.1 hnums) x hx y hy exy
        rcases this with k | k
        · exact k e
        · exact k e.symm
    · obtain ⟨s, hs, hsx⟩ := hfl x hx
      obtain ⟨s', hs', hsy⟩ := hfl y hy
      have hqs := hmem hsx q hq
      refine ⟨fun e => ?_, fun e => ?_, fun hne r hr e => ?_⟩
      · rw [(hspec _ _ hsy).1] at e
        by_cases es : s = s'
        · subst es; exact (hself s hs).1 (by rw [← e]; exact hqs)
        · exact hdisj s hs s' hs' es q.1 (by simp [hqs]) s'.op (by simp) e
      · rw [(hspec _ _ hsy).2.1] at e
        exact hnotill s hs s' hs' q.1 (.inr hqs) e
      · have hrs := hmem hsy r hr
        by_cases es : s = s'
        · subst es; exact hne (hsame x hx y hy s hs hsx hsy)
        · exact hdisj s hs s' hs' es q.1 (by simp [hqs]) r.1 (by simp [hrs]) e
    · obtain ⟨s, hs, hsx⟩ := hfl x hx
      obtain ⟨s', hs', hsy⟩ := hfl y hy
      rw [(hspec _ _ hsx).1, (hspec _ _ hsy).2.1] at e
      exact hnotill s hs s' hs' s.op (.inl rfl) e
    · exact List.Pairwise.imp (fun h e => h (by rw [e])) (List.pairwise_map.1 hnums)
  have hisf : ∀ i, isF fss i = true → ∃ x ∈ fl, x.op = i ∨ ∃ q ∈ x.ins, q.1 = i := fun i hi => by
    obtain ⟨s, hs, hi⟩ := isF_iff.1 hi
    obtain ⟨x, hxf, hx⟩ := hall s hs
    refine ⟨x, hxf, ?_⟩
    rcases hi with hi | hi
    · exact .inl ((hspec _ _ hx).1.trans hi)
    · have : i ∈ x.ins.map (·.1) := by rw [(hspec _ _ hx).2.2]; exact hi
      obtain ⟨q, hq, e⟩ := List.mem_map.1 this
      exact .inr ⟨q, hq, e⟩
  have hany := fany_of_walk hah ha hisf ord 0 (fun _ => false) a _ (fun j _ => by simp) (fun k o _ hk => by cases hk) hgo hwalk
  have hpos : ∀ {S : Nat → Bool} {a' : Fr} {A' : AW} {i : Nat} {o : Oper} {n : Nat}, A'.Wf → FAny P ops S0 (mdOf ord) fl (fun a' A' => Q .normal a' (clm (clOf fl ops.size) A')) n S a' A' →
      ops[i]? = some o → Rdy S i o → ∃ n', FStp P ops S0 (mdOf ord) fl i o a' A' (FAny P ops S0 (mdOf ord) fl (fun a' A' => Q .normal a' (clm (clOf fl ops.size) A')) n' (setL S i)) := by
    intro S a' A' i o n hwf hk ho hr
    cases n with
    | zero =>
      have := hk.1 i (hlt ho)
      rw [hr.1] at this
      cases this
    | succ n => exact ⟨n, hk.2 hwf i o ho hr⟩
  -- the invariant
  refine awp_flo hmx hah fl hok (nb := nb) (fun x hx => ?_) (fun x hx => ?_) (fun x hx => ?_)
    (fun S a' A' => Closed ops S ∧ (∀ i, ops.size ≤ i → S i = false) ∧ ∃ n, FAny P ops S0 (mdOf ord) fl (fun a' A' => Q .normal a' (clm (clOf fl ops.size) A')) n S a' A') ?_ ?_ ?_ ?_ ?_
  · exact hrange x hx
  · obtain ⟨s, hs, hsx⟩ := hfl x hx
    obtain ⟨_, o, k2, _⟩ := hop s hs
    refine ⟨by rw [(hspec _ _ hsx).1]; exact hlt k2, fun q hq => ?_⟩
    obtain ⟨_, _, o, k3, _⟩ := hinq s hs q.1 (hmem hsx q hq)
    exact hlt k3
  · obtain ⟨s, hs, hsx⟩ := hfl x hx
    have hn : (x.ins.map (·.1)).Nodup := by rw [(hspec _ _ hsx).2.2]; exact (hself s hs).2
    refine ⟨List.Pairwise.imp (fun h e => h (by rw [e])) (List.pairwise_map.1 hn), fun q hq r hr e => ?_⟩
    by_cases er : r = q
    · exact er
    · exfalso
      rcases pairwise_mem (List.pairwise_map.1 hn) r hr q hq er with k | k
      · exact k e
      · exact k e.symm
  · exact ⟨fun k o _ hk => (by cases hk), fun _ _ => rfl, _, hany⟩
  · rintro S a' A' i o hwf ⟨hcl, hS2, n, hk⟩ ho hr hn
    have hi := hlt ho
    obtain ⟨n', hst⟩ := hpos hwf hk ho hr
    have hmd : mdOf ord i ≤ 1 → clOf fl i = [] := fun hm => by
      unfold clOf
      rw [List.filter_eq_nil_iff]
      intro x hx e
      obtain ⟨s, hs, hsx⟩ := hfl x hx
      have e : x.till = i := by simpa using e
      rw [(hspec _ _ hsx).2.1] at e
      rcases htl s hs with k | ⟨k, _⟩
      · omega
      · rw [e] at k; omega
    have hgn : gval ops a' o = false → clOf fl i = [] := fun hg => by
      unfold clOf
      rw [List.filter_eq_nil_iff]
      intro x hx e
      obtain ⟨s, hs, hsx⟩ := hfl x hx
      have e : x.till = i := by simpa using e
      rw [(hspec _ _ hsx).2.1] at e
      rcases htl s hs with k | ⟨_, ⟨o', k2, k3⟩, _⟩
      · omega
      · rw [e, ho] at k2
        injection k2 with k2
        subst k2
        unfold gval at hg
        rw [k3] at hg
        cases hg
    have nxt : ∀ {a2 A2}, FAny P ops S0 (mdOf ord) fl (fun a' A' => Q .normal a' (clm (clOf fl ops.size) A')) n' (setL S i) a2 A2 →
        Closed ops (setL S i) ∧ (∀ j, ops.size ≤ j → (setL S i) j = false) ∧ ∃ n, FAny P ops S0 (mdOf ord) fl (fun a' A' => Q .normal a' (clm (clOf fl ops.size) A')) n (setL S i) a2 A2 :=
      fun {a2 A2} h => ⟨hcl.set ho hr, setL_out hS2 hi, n', h⟩
    refine ⟨fun x hx e => ?_, ?_⟩
    · obtain ⟨s, hs, hsx⟩ := hfl x hx
      rw [(hspec _ _ hsx).2.1] at e
      rcases htl s hs with k | ⟨_, _, k3, k4⟩
      · omega
      · rw [e] at k3 k4
        refine ⟨by rw [(hspec _ _ hsx).1]; exact ready_anc hah ha hcl ho hr k3, fun q hq => ready_anc hah ha hcl ho hr (k4 _ (hmem hsx q hq))⟩
    · unfold FStp at hst
      unfold AOp1
      split
      · rename_i hg
        rw [if_pos hg] at hst
        split at hst
        · rename_i hm
          obtain ⟨v, hv, hk⟩ := hst
          rw [hmd hm, clm_nil]
          rcases hv with ⟨x, hx, e, _⟩ | ⟨x, hx, q, hq, e, _⟩ | ⟨_, hv⟩
          · exact absurd e (hn x hx).1
          · exact absurd e ((hn x hx).2 q hq)
          · simp only [AStep, hv]
            exact nxt hk
        · exact hst.mono fun v A' hh => nxt hh.2
      · rename_i hg
        rw [if_neg hg] at hst
        rw [hgn (by simpa using hg), clm_nil]
        exact nxt hst
  · rintro S a' A' i o x hwf ⟨hcl, hS2, n, hk⟩ ho hr hx e
    have hi := hlt ho
    obtain ⟨n', hst⟩ := hpos hwf hk ho hr
    obtain ⟨s, hs, hsx⟩ := hfl x hx
    have es := (hspec _ _ hsx).1
    obtain ⟨k1, o', k2, k3⟩ := hop s hs
    rw [← es, e, ho] at k2
    injection k2 with k2
    subst k2
    have hg : gval ops a' o = true := by unfold gval; rw [k3]
    unfold FStp at hst
    rw [if_pos hg, if_pos (by rw [← e, es]; exact k1)] at hst
    obtain ⟨v, hv, hk⟩ := hst
    have hmk : mkO P (evF a') o.op = some (x.k, x.ob) ∧ v = x.k.val x.num := by
      rcases hv with ⟨y, hy, e2, k4, k5⟩ | ⟨y, hy, q, hq, e2, _⟩ | ⟨hn, _⟩
      · have := hok.ops y hy x hx (e2.trans e.symm)
        subst this
        exact ⟨k4, k5⟩
      · exact absurd (e2.trans e.symm) (hok.ins y hy x hx q hq).1
      · exact absurd e (hn x hx).1
    obtain ⟨hmk, rfl⟩ := hmk
    refine ⟨k3, hmk, ?_, hcl.set ho hr, setL_out hS2 hi, n', hk⟩
    unfold FD.cur
    split
    · rename_i es0 own hob
      rw [hob] at hmk
      have := mkO_map hmk
      subst this
      have : (x.ins.filter fun q => S q.1) = [] := List.filter_eq_nil_iff.2 fun q hq hSq => by
        obtain ⟨_, k5, o2, k6, _⟩ := hinq s hs q.1 (hmem hsx q hq)
        have := closed_anc hah ha hcl _ _ _ (Nat.lt_succ_self _) k6 hSq k5
        rw [← es, e, hr.1] at this
        cases this
      rw [this, hob]
      rfl
    · rename_i hob
      exact hob.symm
  · rintro S a' A' i o x q hwf ⟨hcl, hS2, n, hk⟩ ho hr hx hq e
    have hi := hlt ho
    obtain ⟨n', hst⟩ := hpos hwf hk ho hr
    obtain ⟨s, hs, hsx⟩ := hfl x hx
    obtain ⟨k1, k5, o', k2, k3⟩ := hinq s hs q.1 (hmem hsx q hq)
    rw [e, ho] at k2
    injection k2 with k2
    subst k2
    have hg : gval ops a' o = true := by unfold gval; rw [k3]
    unfold FStp at hst
    rw [if_pos hg, if_pos (by rw [← e]; exact k1)] at hst
    obtain ⟨v, hv, hk⟩ := hst
    rw [e] at k5
    have hSx : S x.op = true := by rw [(hspec _ _ hsx).1]; exact ready_anc hah ha hcl ho hr k5
    have hSt : S x.till = false := by
      cases hSt : S x.till with
      | false => rfl
      | true =>
        exfalso
        rw [(hspec _ _ hsx).2.1] at hSt
        rcases htl s hs with k | ⟨_, ⟨o2, k6, _⟩, _, k7⟩
        · rw [k, hS2 _ (Nat.le_refl _)] at hSt; cases hSt
        · have := closed_anc hah ha hcl _ _ _ (Nat.lt_succ_self _) k6 hSt (k7 _ (hmem hsx q hq))
          rw [e, hr.1] at this
          cases this
    have nxt : Closed ops (setL S i) ∧ (∀ j, ops.size ≤ j → (setL S i) j = false) := ⟨hcl.set ho hr, setL_out hS2 hi⟩
    rcases hv with ⟨y, hy, e2, _⟩ | ⟨y, hy, z, hz, e2, ⟨t, X, Y, V, k6, k7, k8, k9, k10, k11⟩, rfl⟩ | ⟨hn, _⟩
    · exact absurd (e.trans e2.symm) (hok.ins x hx y hy q hq).1
    · have hxy : y = x := by
        by_cases exy : x = y
        · exact exy.symm
        · exact absurd (e.trans e2.symm) ((hok.ins x hx y hy q hq).2.2 exy z hz)
      subst hxy
      have hzq : z = q := by
        have hnn : (y.ins.map (·.1)).Nodup := by rw [(hspec _ _ hsx).2.2]; exact (hself s hs).2
        by_cases ez : z = q
        · exact ez
        · rcases pairwise_mem (List.pairwise_map.1 hnn) z hz q hq ez with k | k
          · exact absurd (e2.trans e.symm) k
          · exact absurd (e.trans e2.symm) k
      subst hzq
      exact ⟨k3, hSx, hSt, ⟨t, X, Y, V, k6, k7, k8, k9, k10, k11⟩, nxt.1, nxt.2, n', hk⟩
    · exact absurd e ((hn x hx).2 q hq)
  · rintro S a' A' hwf ⟨hcl, hS2, n, hk⟩ hall2
    cases n with
    | zero => exact hk.2
    | succ n => exact hk.1 hall2

theorem evReg_sound {P : Program} {call : ECall} (hc : call.Ok P) (hmx : P.follows .mixedOrders = true) {nt : Nat} {id : Nat} {ops : Array Oper} {ord : List (Nat × Nat)} {fss : List FS} {a : FT} {m : EM} {a' : FT} {m' : EM} (h : evReg P call ops ord fss a m = some (a', m'))
    (hB : linF ops ord fss = true) {Q : Exit → Fr → AW → Prop} (hq : Q .normal a'.fr m'.aw) : AWP P nt (.region id ops true) Q a.fr m.aw := by
  unfold evReg at h
  rw [fNat_eq] at h
  split at h
  · rename_i a1 m1 rs ms FL IL h1
    split at h
    · cases h
    · rename_i hrd
      split at h
      · cases h
      · rename_i hchk
        split at h
        · rename_i m2 hcl
          simp only [Option.some.injEq, Prod.mk.injEq] at h
          obtain ⟨rfl, rfl⟩ := h
          obtain ⟨hsp, hnums⟩ := flChk_spec hchk
          have hall : ∀ s ∈ fss, ∃ x, fdOf FL IL s = some x := fun s hs => let ⟨x, h, _⟩ := hsp s hs; ⟨x, h⟩
          have hty : ∀ s ∈ fss, ∀ x, fdOf FL IL s = some x → s.ins ≠ [] → TyOk P s.t x := fun s hs x hx hne => by
            obtain ⟨y, k1, _, _, _, k5⟩ := hsp s hs
            rw [hx] at k1
            injection k1 with k1
            subst k1
            exact k5 hne
          obtain ⟨_, _, hw⟩ := evLinF_sound hc (S := fun A' => ∀ x ∈ rs, aq P A' (evF x.2.1.fr) x.1 = some x.2.2)
            (K := fun a' A' => Q .normal a' (clm (clOf (fss.filterMap (fdOf FL IL)) ops.size) A')) hall hty _ _ _ _ _ _ h1
          have hcm := claimR_eq (FLf := FL) (ILf := IL) (fun _ _ h => h) (fun _ _ h => h) _ _ hcl
          refine awp_fwalk hmx hB (fss.filterMap (fdOf FL IL)) (fun s x => fdOf FL IL s = some x) (fun s x h => ⟨(fdOf_spec h).1, (fdOf_spec h).2.1, (fdOf_spec h).2.2.2.1⟩) (fun s x y h1 h2 => by rw [h1] at h2; injection h2)
            (fun x hx => List.mem_filterMap.1 hx) (fun s hs => let ⟨x, hx⟩ := hall s hs; ⟨x, List.mem_filterMap.2 ⟨s, hs, hx⟩, hx⟩) (nb := fss.length) (fun x hx => ?_) hnums _
            (hw (fun _ _ h => h) (fun _ _ h => h) (fun x hx A' hA' => hA' x hx) (fun m hm x hx => rdsOk_all hrd m hm x hx) (by rw [← hcm]; exact hq))
          obtain ⟨s, hs, hsx⟩ := List.mem_filterMap.1 hx
          obtain ⟨y, k1, k2, k3, _⟩ := hsp s hs
          rw [hsx] at k1
          injection k1 with k1
          subst k1
          exact ⟨k2, k3⟩
        · cases h
  · cases h


/-! ### Steps of such a walk by hand -/

theorem fw1 {P : Program} {S : AW → Prop} {fl : List FD} {K : Fr → AW → Prop} {i : Nat} {o : LOp} {rest : List (Nat × LOp)} {a : Fr} {A : AW} (hg : o.guard = none) (hm : o.mode ≤ 1) (v : Value) (hv : RD P fl i A (evF a) o.op v)
    (hs : o.mode = 1 → ∀ A', S A' → RD P fl i A' (evF a) o.op v) (h : FWalk P S fl K rest (putF a o.dst v) A) : FWalk P S fl K ((i, o) :: rest) a A := by
  unfold FWalk
  have : sg a o.guard = true := by rw [hg]; rfl
  rw [if_pos this, if_pos hm]
  exact ⟨v, hv, hs, h⟩
theorem fw2 {P : Program} {S : AW → Prop} {fl : List FD} {K : Fr → AW → Prop} {i : Nat} {o : LOp} {rest : List (Nat × LOp)} {a : Fr} {A : AW} (hg : o.guard = none) (hm : ¬ o.mode ≤ 1)
    (h : AStep P o.op (evF a) (clm (clOf fl i) A) fun v A' => (o.mode = 3 → S A') ∧ FWalk P S fl K rest (putF a o.dst v) A') : FWalk P S fl K ((i, o) :: rest) a A := by
  unfold FWalk
  have : sg a o.guard = true := by rw [hg]; rfl
  rw [if_pos this, if_neg hm]
  exact h
theorem fw0 {P : Program} {S : AW → Prop} {fl : List FD} {K : Fr → AW → Prop} {a : Fr} {A : AW} (h : K a A) : FWalk P S fl K [] a A := h

/-! ### Code and calls -/

abbrev OrdsF := List (Nat × List (Nat × Nat) × List FS)
def ordOfF : OrdsF → Nat → Option (List (Nat × Nat) × List FS)
  | [], _ => none
  | (k, l) :: rest, i => match Nat.beq k i with | true => some l | false => ordOfF rest i

/-- Every region that draws has an order that serves. -/
def codeOrdF (os : OrdsF) : Code → Bool
  | .region id ops true => match ordOfF os id with | some (ord, []) => linB ops ord | some (ord, fss) => linF ops ord fss | none => false
  | .seq x y => codeOrdF os x && codeOrdF os y
  | .cond _ x y => codeOrdF os x && codeOrdF os y
  | .block _ b => codeOrdF os b
  | .loop b => codeOrdF os b
  | _ => true

def evCF (P : Program) (os : OrdsF) (call : ECall) : Nat → Code → FT → EM → Option (Exit × FT × EM)
  | 0, _, _, _ => none
  | n + 1, c, a, m =>
    match c with
    | .skip => some (.normal, a, m)
    | .exit id => some (.exit id, a, m)
    | .ret => some (.ret, a, m)
    | .seq x y =>
      match evCF P os call n x a m with
      | some (.normal, a', m') => evCF P os call n y a' m'
      | r => r
    | .block id b =>
      match evCF P os call n b a m with
      | some (.exit id', a', m') => match Nat.beq id' id with | true => some (.normal, a', m') | false => some (.exit id', a', m')
      | r => r
    | .cond c x y =>
      match evF a.fr c with
      | .bool true => evCF P os call n x a m
      | .bool false => evCF P os call n y a m
      | _ => none
    | .loop b =>
      match evCF P os call n b a m with
      | some (.normal, a', m') => evCF P os call n (.loop b) a' m'
      | r => r
    | .region id ops false =>
      match evOps P call ops ops.toList a m with
      | some (a', m') => some (.normal, a', m')
      | none => none
    | .region id ops true =>
      match ordOfF os id with
      | some (ord, []) =>
        match evLin P call (lops ops ord) a m with
        | some (a', m', rs, ms) => match rdsOk P rs ms with | true => some (.normal, a', m') | false => none
        | none => none
      | some (ord, s :: fss) =>
        match evReg P call ops ord (s :: fss) a m with
        | some (a', m') => some (.normal, a', m')
        | none => none
      | none => none
    | _ => none

theorem evCF_sound {P : Program} {os : OrdsF} {call : ECall} (hc : call.Ok P) (hmx : P.follows .mixedOrders = true) {nt : Nat} : ∀ (n : Nat) (c : Code) (a : FT) (m : EM) {e : Exit} {a' : FT} {m' : EM}, evCF P os call n c a m = some (e, a', m') → codeOrdF os c = true →
    ∀ {Q : Exit → Fr → AW → Prop}, Q e a'.fr m'.aw → AWP P nt c Q a.fr m.aw ∧ ∀ b, c = .loop b → ∃ k, ARounds P nt b Q k a.fr m.aw
  | 0, c, a, m, e, a', m', h, _, _, _ => by cases h
  | n + 1, c, a, m, e, a', m', h, ho, Q, hq => by
    unfold evCF at h
    cases c with
    | skip =>
      simp only [Option.some.injEq, Prod.mk.injEq] at h
      obtain ⟨rfl, rfl, rfl⟩ := h
      exact ⟨awp_skip hq, fun b e => by cases e⟩
    | exit id =>
      simp only [Option.some.injEq, Prod.mk.injEq] at h
      obtain ⟨rfl, rfl, rfl⟩ := h
      exact ⟨awp_exit hq, fun b e => by cases e⟩
    | ret =>
      simp only [Option.some.injEq, Prod.mk.injEq] at h
      obtain ⟨rfl, rfl, rfl⟩ := h
      exact ⟨awp_ret hq, fun b e => by cases e⟩
    | seq x y =>
      refine ⟨awp_seq ?_, fun b e => by cases e⟩
      simp only [codeOrdF, Bool.and_eq_true] at ho
      simp only at h
      split at h
      · rename_i a1 m1 h1
        exact (evCF_sound hc hmx n x a m h1 ho.1 (Q := AThen (AWP P nt y Q) Q) (evCF_sound hc hmx n y a1 m1 h ho.2 hq).1).1
      · rename_i r hr
        rw [h] at hr
        refine (evCF_sound hc hmx n x a m h ho.1 (Q := AThen (AWP P nt y Q) Q) ?_).1
        cases e <;> first | exact hq | exact absurd rfl (hr _ _)
    | block id b =>
      refine ⟨awp_block ?_, fun b e => by cases e⟩
      simp only at h
      split at h
      · rename_i id' a1 m1 h1
        split at h
        · rename_i e1
          simp only [Option.some.injEq, Prod.mk.injEq] at h
          obtain ⟨rfl, rfl, rfl⟩ := h
          refine (evCF_sound hc hmx n b a m h1 ho (Q := ABlock id Q) ?_).1
          simp only [ABlock]
          rw [if_pos (Nat.eq_of_beq_eq_true e1)]
          exact hq
        · rename_i e1
          simp only [Option.some.injEq, Prod.mk.injEq] at h
          obtain ⟨rfl, rfl, rfl⟩ := h
          refine (evCF_sound hc hmx n b a m h1 ho (Q := ABlock id Q) ?_).1
          simp only [ABlock]
          rw [if_neg (fun e2 => by rw [beq_yes e2] at e1; cases e1)]
          exact hq
      · rename_i r hr
        refine (evCF_sound hc hmx n b a m h ho (Q := ABlock id Q) ?_).1
        cases e <;> first | exact hq | exact absurd h (hr _ _ _)
    | cond c x y =>
      refine ⟨?_, fun b e => by cases e⟩
      simp only [codeOrdF, Bool.and_eq_true] at ho
      simp only at h
      split at h
      · rename_i e1
        exact awp_cond e1 (fun _ => (evCF_sound hc hmx n x a m h ho.1 hq).1) (fun e => by cases e)
      · rename_i e1
        exact awp_cond e1 (fun e => by cases e) (fun _ => (evCF_sound hc hmx n y a m h ho.2 hq).1)
      · cases h
    | loop b =>
      have key : ∃ k, ARounds P nt b Q k a.fr m.aw := by
        simp only at h
        split at h
        · rename_i a1 m1 h1
          obtain ⟨k, hk⟩ := (evCF_sound hc hmx n (.loop b) a1 m1 h ho hq).2 b rfl
          exact ⟨k + 1, (evCF_sound hc hmx n b a m h1 ho (Q := AThen (ARounds P nt b Q k) Q) hk).1⟩
        · rename_i r hr
          refine ⟨1, (evCF_sound hc hmx n b a m h ho (Q := AThen (ARounds P nt b Q 0) Q) ?_).1⟩
          cases e <;> first | exact hq | exact absurd h (hr _ _)
      obtain ⟨k, hk⟩ := key
      exact ⟨awp_rounds k hk, fun b' e => by injection e with e; subst e; exact ⟨k, hk⟩⟩
    | region id ops dr =>
      refine ⟨?_, fun b e => by cases e⟩
      cases dr with
      | false =>
        simp only at h
        split at h
        · rename_i a1 m1 h1
          simp only [Option.some.injEq, Prod.mk.injEq] at h
          obtain ⟨rfl, rfl, rfl⟩ := h
          exact awp_region (evOps_sound hc _ _ _ h1 hq)
        · cases h
      | true =>
        simp only [codeOrdF] at ho
        simp only at h
        split at h
        · rename_i ord hor
          rw [hor] at ho
          split at h
          · rename_i a1 m1 rs ms h1
            split at h
            · rename_i hrd
              simp only [Option.some.injEq, Prod.mk.injEq] at h
              obtain ⟨rfl, rfl, rfl⟩ := h
              refine wlS (fun A' => ∀ x ∈ rs, aq P A' (evF x.2.1.fr) x.1 = some x.2.2) hmx ord ho fun K hK => ?_
              exact evLin_sound hc _ a m h1 (fun x hx A' hA' => hA' x hx) (fun m hm x hx => rdsOk_all hrd m hm x hx) (hK _ _ hq)
            · cases h
          · cases h
        · rename_i ord s fss hor
          rw [hor] at ho
          split at h
          · rename_i a1 m1 h1
            simp only [Option.some.injEq, Prod.mk.injEq] at h
            obtain ⟨rfl, rfl, rfl⟩ := h
            exact evReg_sound hc hmx h1 ho hq
          · cases h
        · cases h
    | _ => cases h


abbrev ETabF := List (Nat × OrdsF)
def tabOfF : ETabF → Nat → Option OrdsF
  | [], _ => none
  | (k, l) :: rest, i => match Nat.beq k i with | true => some l | false => tabOfF rest i

def fnStatF (fn : Func) (os : OrdsF) : Bool :=
  !(fn.name == "runtime.NumGoroutine") && fn.results.toList.all (resOk fn.ntmps) && (match fn.body with | some c => codeOk fn.ntmps c && codeOrdF os c | none => false)
/-- What the evaluator needs to know of the functions, once. -/
def tabBF (P : Program) : ETabF → Bool
  | [] => true
  | (f, os) :: rest => (match P.funcs[f]? with | some fn => fnStatF fn os | none => false) && tabBF P rest
theorem tabBF_of {P : Program} : ∀ {T : ETabF}, tabBF P T = true → ∀ {f os}, tabOfF T f = some os → ∃ fn, P.funcs[f]? = some fn ∧ fnStatF fn os = true
  | [], _, f, os, h => by cases h
  | (k, l) :: rest, hT, f, os, h => by
    simp only [tabBF, Bool.and_eq_true] at hT
    unfold tabOfF at h
    split at h
    · rename_i e
      have e := Nat.eq_of_beq_eq_true e
      subst e
      injection h with h
      subst h
      have h1 := hT.1
      split at h1
      · rename_i fn hfn; exact ⟨fn, hfn, h1⟩
      · cases h1
    · exact tabBF_of hT.2 h

theorem tabBF_app {P : Program} : ∀ {T U : ETabF}, tabBF P T = true → tabBF P U = true → tabBF P (T ++ U) = true
  | [], U, _, h => h
  | (f, os) :: T, U, h, k => by
    simp only [tabBF, List.cons_append, Bool.and_eq_true] at h ⊢
    exact ⟨h.1, tabBF_app h.2 k⟩

/-- base: calls whose outcome is known otherwise. -/
def evCallF (P : Program) (T : ETabF) (base : ECall) (N : Nat) : Nat → ECall
  | 0, _, _, _ => none
  | n + 1, f, args, m =>
    match tabOfF T f with
    | none => base f args m
    | some os =>
      match P.funcs[f]? with
      | none => none
      | some fn =>
        match fn.body with
        | none => none
        | some c =>
          match Nat.ble args.length fn.ntmps with
          | false => none
          | true =>
            match Nat.ble args.length 1000 with
            | false => none
            | true => putArgs args 0 .nil fun a0 =>
              match evCF P os (evCallF P T base N n) N c a0 m with
              | some (.normal, a', m') =>
                match ares P a'.fr m'.aw fn.results.toList with
                | some v => fVal v fun v => some (v, m')
                | none => none
              | some (.ret, a', m') =>
                match ares P a'.fr m'.aw fn.results.toList with
                | some v => fVal v fun v => some (v, m')
                | none => none
              | _ => none

theorem evCallF_sound {P : Program} {T : ETabF} {base : ECall} (hbase : base.Ok P) (hT : tabBF P T = true) (hmx : P.follows .mixedOrders = true) (N : Nat) : ∀ n, (evCallF P T base N n).Ok P
  | 0 => fun f args m v m' h => by cases h
  | n + 1 => fun f args m v m' h => by
    have ih := evCallF_sound hbase hT hmx N n
    unfold evCallF at h
    split at h
    · exact hbase _ _ _ _ _ h
    · rename_i os hos
      obtain ⟨fn, hfn, hst⟩ := tabBF_of hT hos
      rw [hfn] at h
      simp only at h
      split at h
      · cases h
      · rename_i c hb
        split at h
        · cases h
        · rename_i hle
          split at h
          · cases h
          · rename_i hle2
            have hle : args.length ≤ fn.ntmps := Nat.le_of_ble_eq_true hle
            have hle2 : args.length ≤ 1000 := Nat.le_of_ble_eq_true hle2
            simp only [fnStatF, hb, Bool.and_eq_true] at hst
            obtain ⟨⟨hs1, hs2⟩, hs3, hs4⟩ := hst
            refine acall_of_awp hfn hb (by simp only [fnOk, hb, Bool.and_eq_true, decide_eq_true_eq]; exact ⟨⟨⟨hle, hs1⟩, hs2⟩, hs3⟩) ?_
            obtain ⟨a0, h1, h2⟩ := putArgs_eq (c := fun a0 => match evCF P os (evCallF P T base N n) N c a0 m with
              | some (.normal, a', m') =>
                match ares P a'.fr m'.aw fn.results.toList with
                | some v => fVal v fun v => some (v, m')
                | none => none
              | some (.ret, a', m') =>
                match ares P a'.fr m'.aw fn.results.toList with
                | some v => fVal v fun v => some (v, m')
                | none => none
              | _ => none) args 0 .nil (by omega)
            rw [h1] at h
            have hi : a0.fr = initF args := by
              funext j
              rw [h2, if_pos (Nat.zero_le _)]
              simp only [initF, Nat.zero_add, Nat.sub_zero]
              split
              · rfl
              · rename_i hj
                rw [List.getD_eq_getElem?_getD, List.getElem?_eq_none (by omega)]
                rfl
            rw [← hi]
            split at h
            · rename_i a1 m1 h3
              split at h
              · rename_i u hu
                rw [fVal_eq] at h
                simp only [Option.some.injEq, Prod.mk.injEq] at h
                obtain ⟨rfl, rfl⟩ := h
                exact (evCF_sound ih hmx N c a0 m h3 hs4 ⟨u, hu, rfl, rfl⟩).1
              · cases h
            · rename_i a1 m1 h3
              split at h
              · rename_i u hu
                rw [fVal_eq] at h
                simp only [Option.some.injEq, Prod.mk.injEq] at h
                obtain ⟨rfl, rfl⟩ := h
                exact (evCF_sound ih hmx N c a0 m h3 hs4 ⟨u, hu, rfl, rfl⟩).1
              · cases h
            · cases h

/-- A call without arguments says yes. -/
def evTrueF (P : Program) (T : ETabF) (base : ECall) (n : Nat) (f : FuncId) : Bool := match evCallF P T base 1000000 200 f [] (EM.empty n) with | some (.bool true, _) => true | _ => false
theorem evTrueF_sound {P : Program} {T : ETabF} {base : ECall} (hbase : base.Ok P) (hT : tabBF P T = true) (hmx : P.follows .mixedOrders = true) {n : Nat} (hn : Gl.N = n) {f : FuncId} (h : evTrueF P T base n f = true) : ACall P f [] AW.empty fun v _ => v = .bool true := by
  unfold evTrueF at h
  split at h
  · rename_i m' h1
    have h2 := evCallF_sound hbase hT hmx _ _ _ _ _ _ _ h1
    rw [EM.empty_aw hn] at h2
    exact h2.mono fun v A' e => e.1
  · cases h

theorem evCF_awp {P : Program} {os : OrdsF} {call : ECall} (hc : call.Ok P) (hmx : P.follows .mixedOrders = true) {nt n : Nat} {c : Code} {a : FT} {m : EM} {e : Exit} {a' : FT} {m' : EM} (h : evCF P os call n c a m = some (e, a', m')) (ho : codeOrdF os c = true)
    {Q : Exit → Fr → AW → Prop} (hq : Q e a'.fr m'.aw) : AWP P nt c Q a.fr m.aw := (evCF_sound hc hmx n c a m h ho hq).1


/-- The value that a call with plain arguments returns, as the kernel computes it. -/
def evValF (P : Program) (T : ETabF) (base : ECall) (n : Nat) (f : FuncId) (args : List Value) : Option Value := match evCallF P T base 1000000 200 f args (EM.empty n) with | some (v, _) => some v | none => none
theorem evValF_call {P : Program} {T : ETabF} {base : ECall} (hbase : base.Ok P) (hT : tabBF P T = true) (hmx : P.follows .mixedOrders = true) {n : Nat} (hn : Gl.N = n) {f : FuncId} {args : List Value} {v : Value}
    (h : evValF P T base n f args = some v) (hs : ∀ x ∈ args, scalarV x = true) (hv : scalarV v = true) (A : AW) : ACall P f args A fun u A' => u = v ∧ A = A' := by
  unfold evValF at h
  split at h
  · rename_i u m' h1
    injection h with h
    subst h
    have h2 := evCallF_sound hbase hT hmx _ _ _ _ _ _ _ h1
    rw [EM.empty_aw hn] at h2
    exact (ACall.closedArgs hs (h2.mono fun v A' e => e.1) (fun x e => by rw [e]; exact hv) A).mono fun x A' e => ⟨e.1, e.2.symm⟩
  · cases h

end
end Go.Stx
