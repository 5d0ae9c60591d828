/-
  Programs of instructions in memory; where a transaction ends; letters in a text.
-/
import Derived.Test.YtcffnkgjmneaeaaGreatDoorFacts
import Derived.Test.YtcffnkgjmneaeaaGreatDoorCoreB
import Derived.Test.YtcffnkgjmneaeaaGreatDoorInsP
namespace Go.Stx
open Go Go.Proofs
attribute [local irreducible] AWP LWalk ACall ARounds lops nops
set_option linter.unusedVariables false
set_option linter.unusedSimpArgs false
set_option linter.unusedSectionVars false
set_option maxRecDepth 20000
variable [Gl]

def insCells (i : InsV) : List Value := [.int .i64 i.op, .int .i64 i.a, .int .i64 i.b, .int .i64 i.c, .int .i64 i.imm]
def IsIns (A : AW) (v : Value) (p : List InsV) : Prop := IsSl A 5 v p.length (p.flatMap insCells)

theorem ins_flat : ∀ (l : List InsV) (j : Nat) (hj : j < l.length), ((l.flatMap insCells).drop (j * 5)).take 5 = insCells l[j]
  | x :: l, 0, _ => by simp [insCells]
  | x :: l, j + 1, h => by
    have := ins_flat l j (by simpa using h)
    have e : (j + 1) * 5 = (insCells x).length + j * 5 := by simp [insCells]; omega
    rw [List.flatMap_cons, e, ← List.drop_drop, List.drop_left]
    simpa using this

theorem IsIns.form {A : AW} {v : Value} {l : List InsV} (h : IsIns A v l) : ∃ o c, v = .slice o l.length c ∧ l.length ≤ c := IsSl.form h
theorem IsIns.le {A B : AW} (hl : A.le B) (hw : A.Wf) {v : Value} {l : List InsV} (h : IsIns A v l) : IsIns B v l := IsSl.le hl hw h

theorem IsIns.at {A : AW} {o : Option Addr} {c n : Nat} {l : List InsV} (h : IsIns A (.slice o n c) l) {i : Nat} (hi : i < l.length) :
    ∃ p row, o = some p ∧ A.row p.block = some row ∧ p.off + i * 5 + 5 ≤ row.length ∧ (row.drop (p.off + i * 5)).take 5 = insCells l[i] := by
  rcases h with ⟨⟨o, h1⟩, h2, _⟩ | ⟨p, c, row, own, u, h1, h2, h3, h4, h5, h6⟩
  · omega
  · injection h1 with h1 _ _
    refine ⟨p, row, h1, AW.row_of h3, by omega, ?_⟩
    rw [← ins_flat l i hi, h6, ← List.drop_drop, List.drop_take, List.take_take]
    congr 1
    omega
theorem ins_cell {row : List Value} {b : Nat} {x : InsV} (h : (row.drop b).take 5 = insCells x) (q : Nat) (hq : q < 5) : row[b + q]? = (insCells x)[q]? := by
  rw [← h, List.getElem?_take_of_lt hq, List.getElem?_drop]
theorem ins_op {row : List Value} {b : Nat} {x : InsV} (h : (row.drop b).take 5 = insCells x) : row[b]? = some (.int .i64 x.op) := ins_cell h 0 (by omega)

set_option maxHeartbeats 1000000 in
theorem end_call (v : Value) (p : List InsV) (b : Nat) (A : AW) (h : IsIns A v p) (hl : p.length < 2^30) (hb : b < p.length) :
    ACall Tryz.prog 145 [v, .int .i64 b] A (fun u A' => u = .int .i64 (progEnd p b) ∧ A = A') := by
  refine acall_intro Tryz.func145 rfl (by kernel_rfl) fun hw => ?_
  obtain ⟨o, c, rfl, _⟩ := h.form
  have hw0 : IntKind.i64.wrap ((b : Int) + 1) = ((b + 1 : Nat) : Int) := wrap_i64 (by omega) (by omega)
  repeat' (first
  | (refine lwc fun R hR => ?_; simp [wrap_i64, wrap_u64, hw0]; try simp (disch := omega) only [if_pos, if_neg, wrap_i64, wrap_u64])
  | (refine hR _ _ ?_; clear hR R) | (refine hK _ _ ?_; clear hK K) | refine lwn ?_ | refine lr ?_ | refine la ?_
  | refine wn fun K hK => ?_
  | simp only [wS]
  | refine wb ?_ | refine wr ?_ | refine wk ?_ | refine we ?_ | refine ws ?_ | refine wq ?_
  | (refine wc rfl (fun hc => ?_) (fun hc => ?_) <;> (try simp at hc) <;> (try omega))
  | (refine ib (fun hc => ?_) (fun hc => ?_) <;> (try omega) <;> (try simp (disch := omega) only [if_pos, if_neg])))
  refine awp_loop (fun k fr A' => A = A' ∧ ∃ i : Nat, k = p.length - i ∧ i ≤ p.length ∧ fr 0 = .slice o p.length c ∧ fr 5 = .int .i64 i ∧ progEnd p b = nextC p i) (p.length - (b + 1)) ?_ ?_
  · exact ⟨rfl, b + 1, rfl, by omega, rfl, rfl, rfl⟩
  · rintro k fr A' ⟨rfl, i, rfl, hi, h0, h5, he⟩
    by_cases hlt : i < p.length
    · obtain ⟨q, row, rfl, hrow, hle, hcell⟩ := h.at hlt
      have hop := ins_op hcell
      have hwi : IntKind.i64.wrap ((i : Int) + 1) = ((i + 1 : Nat) : Int) := wrap_i64 (by omega) (by omega)
      have hst := nextC_step hlt
      have ho : insOp p i = p[i].op := insOp_get (List.getElem?_eq_getElem hlt)
      rw [ho] at hst
      by_cases h8 : p[i].op = 8
      · rw [if_pos h8] at hst
        refine awp_seq ?_
        repeat' (first
        | (refine lwc fun R hR => ?_; simp [wrap_i64, wrap_u64, h0, h5, hrow, hop, hle, hlt, hwi, h8]; try simp (disch := omega) only [if_pos, if_neg, wrap_i64, wrap_u64])
        | (refine hR _ _ ?_; clear hR R) | (refine hK _ _ ?_; clear hK K) | refine lwn ?_ | refine lr ?_ | refine la ?_
        | refine wn fun K hK => ?_
        | simp only [wS]
        | refine wb ?_ | refine wr ?_ | refine wk ?_ | refine we ?_ | refine ws ?_ | refine wq ?_
        | (refine wc rfl (fun hc => ?_) (fun hc => ?_) <;> (try simp at hc) <;> (try omega))
        | (refine ib (fun hc => ?_) (fun hc => ?_) <;> (try omega) <;> (try simp (disch := omega) only [if_pos, if_neg])))
        simp [he, hst]
      · rw [if_neg h8] at hst
        refine awp_seq ?_
        repeat' (first
        | (refine lwc fun R hR => ?_; simp [wrap_i64, wrap_u64, h0, h5, hrow, hop, hle, hlt, hwi, h8]; try simp (disch := omega) only [if_pos, if_neg, wrap_i64, wrap_u64])
        | (refine hR _ _ ?_; clear hR R) | (refine hK _ _ ?_; clear hK K) | refine lwn ?_ | refine lr ?_ | refine la ?_
        | refine wn fun K hK => ?_
        | simp only [wS]
        | refine wb ?_ | refine wr ?_ | refine wk ?_ | refine we ?_ | refine ws ?_ | refine wq ?_
        | (refine wc rfl (fun hc => ?_) (fun hc => ?_) <;> (try simp at hc) <;> (try omega))
        | (refine ib (fun hc => ?_) (fun hc => ?_) <;> (try omega) <;> (try simp (disch := omega) only [if_pos, if_neg])))
        refine ⟨p.length - (i + 1), by omega, rfl, i + 1, rfl, by omega, ?_, ?_, ?_⟩
        · simp [h0]
        · simp
        · rw [he, hst]
    · have hil : i = p.length := by omega
      refine awp_seq ?_
      repeat' (first
      | (refine lwc fun R hR => ?_; simp [wrap_i64, wrap_u64, h0, h5, hlt]; try simp (disch := omega) only [if_pos, if_neg, wrap_i64, wrap_u64])
      | (refine hR _ _ ?_; clear hR R) | (refine hK _ _ ?_; clear hK K) | refine lwn ?_ | refine lr ?_ | refine la ?_
      | refine wn fun K hK => ?_
      | simp only [wS]
      | refine wb ?_ | refine wr ?_ | refine wk ?_ | refine we ?_ | refine ws ?_ | refine wq ?_
      | (refine wc rfl (fun hc => ?_) (fun hc => ?_) <;> (try simp at hc) <;> (try omega))
      | (refine ib (fun hc => ?_) (fun hc => ?_) <;> (try omega) <;> (try simp (disch := omega) only [if_pos, if_neg])))
      subst hil
      simp [he, nextC_end (Nat.le_refl _)]

set_option maxHeartbeats 1000000 in
theorem into_call (v : Value) (p : List InsV) (k t : Nat) (A : AW) (h : IsIns A v p) (hl : p.length < 2^30) (hk : k < p.length) (ht : t ≤ p.length) :
    ACall Tryz.prog 146 [v, .int .i64 k, .int .i64 t] A (fun u A' => u = .bool (progInto p k t) ∧ A = A') := by
  refine acall_intro Tryz.func146 rfl (by kernel_rfl) fun hw => ?_
  obtain ⟨o, c, rfl, _⟩ := h.form
  have hw0 : IntKind.i64.wrap ((k : Int) + 1) = ((k + 1 : Nat) : Int) := wrap_i64 (by omega) (by omega)
  have hwl : IntKind.i64.wrap ((p.length : Int) - 1) = ((p.length - 1 : Nat) : Int) := by rw [wrap_i64 (by omega) (by omega)]; omega
  repeat' (first
  | (refine lwc fun R hR => ?_; simp [wrap_i64, wrap_u64, hw0]; try simp (disch := omega) only [if_pos, if_neg, wrap_i64, wrap_u64])
  | (refine hR _ _ ?_; clear hR R) | (refine hK _ _ ?_; clear hK K) | refine lwn ?_ | refine lr ?_ | refine la ?_
  | refine wn fun K hK => ?_
  | simp only [wS]
  | refine wb ?_ | refine wr ?_ | refine wk ?_ | refine we ?_ | refine ws ?_ | refine wq ?_
  | (refine wc rfl (fun hc => ?_) (fun hc => ?_) <;> (try simp at hc) <;> (try omega))
  | (refine ib (fun hc => ?_) (fun hc => ?_) <;> (try omega) <;> (try simp (disch := omega) only [if_pos, if_neg])))
  refine awp_loop (fun n fr A' => A = A' ∧ ∃ i : Nat, n = t - i ∧ k + 1 ≤ i ∧ fr 0 = .slice o p.length c ∧ fr 2 = .int .i64 t ∧ fr 7 = .int .i64 i ∧
    (progInto p k t = true ↔ ∃ b, i ≤ b ∧ b < t ∧ insOp p b = 7 ∧ t ≤ min (progEnd p b) (p.length - 1))) (t - (k + 1)) ?_ ?_
  · refine ⟨rfl, k + 1, rfl, Nat.le_refl _, rfl, rfl, rfl, ?_⟩
    rw [progInto, List.any_eq_true]
    constructor
    · rintro ⟨b, hb, hh⟩
      simp only [Bool.and_eq_true, decide_eq_true_eq] at hh
      exact ⟨b, by omega, List.mem_range.1 hb, hh.1.2, hh.2⟩
    · rintro ⟨b, h1, h2, h3, h4⟩
      exact ⟨b, List.mem_range.2 h2, by simp only [Bool.and_eq_true, decide_eq_true_eq]; exact ⟨⟨by omega, h3⟩, h4⟩⟩
  · rintro n fr A' ⟨rfl, i, rfl, hi, h0, h2, h7, he⟩
    by_cases hlt : i < t
    · have hil : i < p.length := by omega
      obtain ⟨q, row, rfl, hrow, hle, hcell⟩ := h.at hil
      have hop := ins_op hcell
      have hwi : IntKind.i64.wrap ((i : Int) + 1) = ((i + 1 : Nat) : Int) := wrap_i64 (by omega) (by omega)
      have ho : insOp p i = p[i].op := insOp_get (List.getElem?_eq_getElem hil)
      by_cases h7' : p[i].op = 7
      · have hend := end_call _ p i A h hl hil
        by_cases hcc : t ≤ min (progEnd p i) (p.length - 1)
        · have e : progInto p k t = true := he.2 ⟨i, Nat.le_refl _, hlt, by rw [ho]; exact h7', hcc⟩
          have hc2 : ((t : Int) ≤ if p.length - 1 < progEnd p i then ((p.length - 1 : Nat) : Int) else (progEnd p i : Int)) := by split <;> omega
          refine awp_seq ?_
          repeat' (first
          | (refine lwc fun R hR => ?_; simp [wrap_i64, wrap_u64, h0, h2, h7, hrow, hop, hle, hlt, hil, hwi, hwl, h7', hc2, e]; try simp (disch := omega) only [if_pos, if_neg, wrap_i64, wrap_u64])
          | (refine hR _ _ ?_; clear hR R) | (refine hK _ _ ?_; clear hK K) | refine lwn ?_ | refine lr ?_ | refine la ?_
          | refine wn fun K hK => ?_
          | simp only [wS]
          | (refine callK (hend) ?_; rintro _ _ ⟨rfl, rfl⟩ _ _)
          | refine wb ?_ | refine wr ?_ | refine wk ?_ | refine we ?_ | refine ws ?_ | refine wq ?_
          | (refine wc rfl (fun hc => ?_) (fun hc => ?_) <;> (try simp at hc) <;> (try omega))
          | (refine ib (fun hc => ?_) (fun hc => ?_) <;> (try omega) <;> (try simp (disch := omega) only [if_pos, if_neg])))
          simp [ABlock, AThen, APost, ares, aresL, ares1, e]
        · have hc2 : ¬ ((t : Int) ≤ if p.length - 1 < progEnd p i then ((p.length - 1 : Nat) : Int) else (progEnd p i : Int)) := by split <;> omega
          refine awp_seq ?_
          repeat' (first
          | (refine lwc fun R hR => ?_; simp [wrap_i64, wrap_u64, h0, h2, h7, hrow, hop, hle, hlt, hil, hwi, hwl, h7', hc2]; try simp (disch := omega) only [if_pos, if_neg, wrap_i64, wrap_u64])
          | (refine hR _ _ ?_; clear hR R) | (refine hK _ _ ?_; clear hK K) | refine lwn ?_ | refine lr ?_ | refine la ?_
          | refine wn fun K hK => ?_
          | simp only [wS]
          | (refine callK (hend) ?_; rintro _ _ ⟨rfl, rfl⟩ _ _)
          | refine wb ?_ | refine wr ?_ | refine wk ?_ | refine we ?_ | refine ws ?_ | refine wq ?_
          | (refine wc rfl (fun hc => ?_) (fun hc => ?_) <;> (try simp at hc) <;> (try omega))
          | (refine ib (fun hc => ?_) (fun hc => ?_) <;> (try omega) <;> (try simp (disch := omega) only [if_pos, if_neg])))
          refine ⟨t - (i + 1), by omega, rfl, i + 1, rfl, by omega, ?_, ?_, ?_, ?_⟩
          · simp [h0]
          · simp [h2]
          · simp
          · rw [he]
            constructor
            · rintro ⟨b, g1, g2, g3, g4⟩
              have : b ≠ i := fun e => hcc (by rw [← e]; exact g4)
              exact ⟨b, by omega, g2, g3, g4⟩
            · rintro ⟨b, g1, g2, g3, g4⟩
              exact ⟨b, by omega, g2, g3, g4⟩
      · refine awp_seq ?_
        repeat' (first
        | (refine lwc fun R hR => ?_; simp [wrap_i64, wrap_u64, h0, h2, h7, hrow, hop, hle, hlt, hil, hwi, hwl, h7']; try simp (disch := omega) only [if_pos, if_neg, wrap_i64, wrap_u64])
        | (refine hR _ _ ?_; clear hR R) | (refine hK _ _ ?_; clear hK K) | refine lwn ?_ | refine lr ?_ | refine la ?_
        | refine wn fun K hK => ?_
        | simp only [wS]
        | refine wb ?_ | refine wr ?_ | refine wk ?_ | refine we ?_ | refine ws ?_ | refine wq ?_
        | (refine wc rfl (fun hc => ?_) (fun hc => ?_) <;> (try simp at hc) <;> (try omega))
        | (refine ib (fun hc => ?_) (fun hc => ?_) <;> (try omega) <;> (try simp (disch := omega) only [if_pos, if_neg])))
        refine ⟨t - (i + 1), by omega, rfl, i + 1, rfl, by omega, ?_, ?_, ?_, ?_⟩
        · simp [h0]
        · simp [h2]
        · simp
        · rw [he]
          constructor
          · rintro ⟨b, g1, g2, g3, g4⟩
            have : b ≠ i := fun e => h7' (by rw [← ho, ← e]; exact g3)
            exact ⟨b, by omega, g2, g3, g4⟩
          · rintro ⟨b, g1, g2, g3, g4⟩
            exact ⟨b, by omega, g2, g3, g4⟩
    · have e : progInto p k t = false := by
        cases hp : progInto p k t with
        | false => rfl
        | true => obtain ⟨b, g1, g2, _⟩ := he.1 hp; omega
      refine awp_seq ?_
      repeat' (first
      | (refine lwc fun R hR => ?_; simp [wrap_i64, wrap_u64, h0, h2, h7, hlt, e]; try simp (disch := omega) only [if_pos, if_neg, wrap_i64, wrap_u64])
      | (refine hR _ _ ?_; clear hR R) | (refine hK _ _ ?_; clear hK K) | refine lwn ?_ | refine lr ?_ | refine la ?_
      | refine wn fun K hK => ?_
      | simp only [wS]
      | refine wb ?_ | refine wr ?_ | refine wk ?_ | refine we ?_ | refine ws ?_ | refine wq ?_
      | (refine wc rfl (fun hc => ?_) (fun hc => ?_) <;> (try simp at hc) <;> (try omega))
      | (refine ib (fun hc => ?_) (fun hc => ?_) <;> (try omega) <;> (try simp (disch := omega) only [if_pos, if_neg])))
      simp [ABlock, AThen, APost, ares, aresL, ares1, e]
end Go.Stx
