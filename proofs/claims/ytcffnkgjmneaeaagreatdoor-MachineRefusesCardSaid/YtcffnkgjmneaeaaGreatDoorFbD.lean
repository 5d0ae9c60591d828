/-
  The document's check of an instruction.
-/
import Derived.Test.YtcffnkgjmneaeaaGreatDoorFbC
namespace Go.Stx
open Go Go.Proofs
def oFbD_0 : List (Nat × Nat) := [(0, 0), (1, 0), (2, 0), (3, 2), (4, 2), (5, 0), (6, 0), (7, 0), (8, 0), (9, 0), (10, 2), (11, 2), (12, 0), (13, 0), (14, 0), (15, 0), (16, 0), (17, 0), (18, 2), (19, 2), (20, 0), (21, 0)]
attribute [local irreducible] AWP LWalk ACall ARounds lops nops
set_option linter.unusedVariables false
set_option linter.unusedSimpArgs false
set_option linter.unusedSectionVars false
set_option maxRecDepth 20000
variable [Gl]

theorem letters {k : Nat} (hk : k < 18) : decide ((114 : UInt8) ∈ refForm k) = useA k ∧ decide ((115 : UInt8) ∈ refForm k) = useB k ∧ decide ((116 : UInt8) ∈ refForm k) = useC k := by
  have h : ((List.range 18).all fun k => (decide ((114 : UInt8) ∈ refForm k) == useA k) && (decide ((115 : UInt8) ∈ refForm k) == useB k) && (decide ((116 : UInt8) ∈ refForm k) == useC k)) = true := by kernel_rfl
  have := List.all_eq_true.1 h k (List.mem_range.2 hk)
  simp only [Bool.and_eq_true, beq_iff_eq] at this
  exact ⟨this.1.1, this.1.2, this.2⟩

theorem number_letters {k : Nat} (hk : k < 18) (imm : Int) : numOk k imm =
    if decide ((105 : UInt8) ∈ refForm k) = true then true else
    if decide ((102 : UInt8) ∈ refForm k) = true then decide (0 ≤ imm) && decide (imm ≤ 21) else
    if decide ((106 : UInt8) ∈ refForm k) = true then decide (0 ≤ imm) && decide (imm ≤ 64) else
    if decide ((97 : UInt8) ∈ refForm k) = true then decide (1 ≤ imm) && decide (imm ≤ 8) else
    if decide ((99 : UInt8) ∈ refForm k) = true then decide (0 ≤ imm) && decide (imm ≤ 3) else decide (0 ≤ imm) && decide (imm ≤ 0) := by
  have h : k = 0 ∨ k = 1 ∨ k = 2 ∨ k = 3 ∨ k = 4 ∨ k = 5 ∨ k = 6 ∨ k = 7 ∨ k = 8 ∨ k = 9 ∨ k = 10 ∨ k = 11 ∨ k = 12 ∨ k = 13 ∨ k = 14 ∨ k = 15 ∨ k = 16 ∨ k = 17 := by omega
  rcases h with rfl | rfl | rfl | rfl | rfl | rfl | rfl | rfl | rfl | rfl | rfl | rfl | rfl | rfl | rfl | rfl | rfl | rfl
  all_goals
    simp [numOk, refForm]
    try (rw [Bool.eq_iff_iff]; simp; omega)

set_option maxHeartbeats 4000000 in
theorem refIns_call (hn : Gl.N = 4) (x : InsV) (A : AW) : ACall Tryz.prog 49 [.agg (insCells x).toArray] A (fun u A' => u = .int .i64 (insErr x) ∧ A = A') := by
  refine ACall.gc0 (V := .int .i64 (insErr x)) (by simp) (fun hw => ?_) (by kernel_rfl)
  refine acall_intro Tryz.func49 rfl (by kernel_rfl) fun _ => ?_
  obtain ⟨op, a, b, c, imm⟩ := x
  by_cases h1 : op < 0
  · have he : insErr ⟨op, a, b, c, imm⟩ = 10 := by unfold insErr; rw [if_pos (.inl h1)]
    rw [he]
    repeat' (first
    | (refine lwc fun R hR => ?_; simp [wrap_i64, wrap_u64, AW.row_get, astore, insCells, h1]; try simp (disch := omega) only [if_pos, if_neg, wrap_i64, wrap_u64])
    | (refine hR _ _ ?_; clear hR R) | (refine hK _ _ ?_; clear hK K) | refine lwn ?_ | refine lr ?_ | refine la ?_
    | refine wn fun K hK => ?_
    | simp only [wS, oFbD_0]
    | refine wl Tryz.mx oFbD_0 (by decide +kernel) fun K hK => ?_
    | refine wb ?_ | refine wr ?_ | refine wk ?_ | refine we ?_ | refine ws ?_ | refine wq ?_
    | (refine wc rfl (fun hc => ?_) (fun hc => ?_) <;> (try simp at hc) <;> (try omega))
    | (refine ib (fun hc => ?_) (fun hc => ?_) <;> (try omega) <;> (try simp (disch := omega) only [if_pos, if_neg])))
    all_goals (simp [AThen, APost, ares, aresL, ares1] <;> exact AW.le.alloc A _)
  by_cases h2 : 18 ≤ op
  · have he : insErr ⟨op, a, b, c, imm⟩ = 10 := by unfold insErr; rw [if_pos (.inr h2)]
    rw [he]
    repeat' (first
    | (refine lwc fun R hR => ?_; simp [wrap_i64, wrap_u64, AW.row_get, astore, insCells, h1, h2]; try simp (disch := omega) only [if_pos, if_neg, wrap_i64, wrap_u64])
    | (refine hR _ _ ?_; clear hR R) | (refine hK _ _ ?_; clear hK K) | refine lwn ?_ | refine lr ?_ | refine la ?_
    | refine wn fun K hK => ?_
    | simp only [wS, oFbD_0]
    | refine wl Tryz.mx oFbD_0 (by decide +kernel) fun K hK => ?_
    | refine wb ?_ | refine wr ?_ | refine wk ?_ | refine we ?_ | refine ws ?_ | refine wq ?_
    | (refine wc rfl (fun hc => ?_) (fun hc => ?_) <;> (try simp at hc) <;> (try omega))
    | (refine ib (fun hc => ?_) (fun hc => ?_) <;> (try omega) <;> (try simp (disch := omega) only [if_pos, if_neg])))
    all_goals (simp [AThen, APost, ares, aresL, ares1] <;> exact AW.le.alloc A _)
  obtain ⟨k, rfl⟩ : ∃ k : Nat, op = k := ⟨op.toNat, by omega⟩
  have hk : k < 18 := by omega
  obtain ⟨l1, l2, l3⟩ := letters hk
  have hnum := number_letters hk imm
  have hs : (refForm k).length < 2^30 := by unfold refForm; split <;> simp
  have c1 : ∀ A, ACall Tryz.prog 88 [.string (bs (refForm k)), .int .u8 114] A (fun u A' => u = .bool (useA k) ∧ A = A') := fun A => by rw [← l1]; exact has_call (refForm k) 114 A hs
  have c2 : ∀ A, ACall Tryz.prog 88 [.string (bs (refForm k)), .int .u8 115] A (fun u A' => u = .bool (useB k) ∧ A = A') := fun A => by rw [← l2]; exact has_call (refForm k) 115 A hs
  have c3 : ∀ A, ACall Tryz.prog 88 [.string (bs (refForm k)), .int .u8 116] A (fun u A' => u = .bool (useC k) ∧ A = A') := fun A => by rw [← l3]; exact has_call (refForm k) 116 A hs
  generalize hd1 : decide ((105 : UInt8) ∈ refForm k) = d1 at hnum
  generalize hd2 : decide ((102 : UInt8) ∈ refForm k) = d2 at hnum
  generalize hd3 : decide ((106 : UInt8) ∈ refForm k) = d3 at hnum
  generalize hd4 : decide ((97 : UInt8) ∈ refForm k) = d4 at hnum
  generalize hd5 : decide ((99 : UInt8) ∈ refForm k) = d5 at hnum
  have e1 : ∀ A, ACall Tryz.prog 88 [.string (bs (refForm k)), .int .u8 105] A (fun u A' => u = .bool d1 ∧ A = A') := fun A => by rw [← hd1]; exact has_call (refForm k) 105 A hs
  have e2 : ∀ A, ACall Tryz.prog 88 [.string (bs (refForm k)), .int .u8 102] A (fun u A' => u = .bool d2 ∧ A = A') := fun A => by rw [← hd2]; exact has_call (refForm k) 102 A hs
  have e3 : ∀ A, ACall Tryz.prog 88 [.string (bs (refForm k)), .int .u8 106] A (fun u A' => u = .bool d3 ∧ A = A') := fun A => by rw [← hd3]; exact has_call (refForm k) 106 A hs
  have e4 : ∀ A, ACall Tryz.prog 88 [.string (bs (refForm k)), .int .u8 97] A (fun u A' => u = .bool d4 ∧ A = A') := fun A => by rw [← hd4]; exact has_call (refForm k) 97 A hs
  have e5 : ∀ A, ACall Tryz.prog 88 [.string (bs (refForm k)), .int .u8 99] A (fun u A' => u = .bool d5 ∧ A = A') := fun A => by rw [← hd5]; exact has_call (refForm k) 99 A hs
  have hkk : ¬ ((18 : Int) ≤ k) := by omega
  have he : insErr ⟨k, a, b, c, imm⟩ = if (regOk a (useA k) && regOk b (useB k) && regOk c (useC k)) && numOk k imm then 0 else 11 := by unfold insErr; rw [if_neg (by simp; omega)]
  rw [he, hnum]
  generalize hra : regOk a (useA k) = ra
  generalize hrb : regOk b (useB k) = rb
  generalize hrc : regOk c (useC k) = rc
  have g1 : ∀ A, ACall Tryz.prog 87 [.int .i64 a, .bool (useA k)] A (fun u A' => u = .bool ra ∧ A = A') := fun A => by rw [← hra]; exact register_call a (useA k) A
  have g2 : ∀ A, ACall Tryz.prog 87 [.int .i64 b, .bool (useB k)] A (fun u A' => u = .bool rb ∧ A = A') := fun A => by rw [← hrb]; exact register_call b (useB k) A
  have g3 : ∀ A, ACall Tryz.prog 87 [.int .i64 c, .bool (useC k)] A (fun u A' => u = .bool rc ∧ A = A') := fun A => by rw [← hrc]; exact register_call c (useC k) A
  cases ra with
  | false =>
    repeat' (first
    | (refine lwc fun R hR => ?_; simp [wrap_i64, wrap_u64, AW.row_get, astore, insCells, hkk]; try simp (disch := omega) only [if_pos, if_neg, wrap_i64, wrap_u64])
    | (refine hR _ _ ?_; clear hR R) | (refine hK _ _ ?_; clear hK K) | refine lwn ?_ | refine lr ?_ | refine la ?_
    | refine wn fun K hK => ?_
    | simp only [wS, oFbD_0]
    | refine wl Tryz.mx oFbD_0 (by decide +kernel) fun K hK => ?_
    | (refine callK (form_call hn hk _) ?_; rintro _ _ ⟨rfl, rfl⟩ _ _)
    | (refine callK (c1 _) ?_; rintro _ _ ⟨rfl, rfl⟩ _ _)
    | (refine callK (c2 _) ?_; rintro _ _ ⟨rfl, rfl⟩ _ _)
    | (refine callK (c3 _) ?_; rintro _ _ ⟨rfl, rfl⟩ _ _)
    | (refine callK (g1 _) ?_; rintro _ _ ⟨rfl, rfl⟩ _ _)
    | (refine callK (g2 _) ?_; rintro _ _ ⟨rfl, rfl⟩ _ _)
    | (refine callK (g3 _) ?_; rintro _ _ ⟨rfl, rfl⟩ _ _)
    | refine wb ?_ | refine wr ?_ | refine wk ?_ | refine we ?_ | refine ws ?_ | refine wq ?_
    | (refine wc rfl (fun hc => ?_) (fun hc => ?_) <;> (try simp at hc) <;> (try omega))
    | (refine ib (fun hc => ?_) (fun hc => ?_) <;> (try omega) <;> (try simp (disch := omega) only [if_pos, if_neg])))
    all_goals (simp [AThen, APost, ares, aresL, ares1] <;> exact AW.le.alloc A _)
  | true => cases rb with
    | false =>
      repeat' (first
      | (refine lwc fun R hR => ?_; simp [wrap_i64, wrap_u64, AW.row_get, astore, insCells, hkk]; try simp (disch := omega) only [if_pos, if_neg, wrap_i64, wrap_u64])
      | (refine hR _ _ ?_; clear hR R) | (refine hK _ _ ?_; clear hK K) | refine lwn ?_ | refine lr ?_ | refine la ?_
      | refine wn fun K hK => ?_
      | simp only [wS, oFbD_0]
      | refine wl Tryz.mx oFbD_0 (by decide +kernel) fun K hK => ?_
      | (refine callK (form_call hn hk _) ?_; rintro _ _ ⟨rfl, rfl⟩ _ _)
      | (refine callK (c1 _) ?_; rintro _ _ ⟨rfl, rfl⟩ _ _)
      | (refine callK (c2 _) ?_; rintro _ _ ⟨rfl, rfl⟩ _ _)
      | (refine callK (c3 _) ?_; rintro _ _ ⟨rfl, rfl⟩ _ _)
      | (refine callK (g1 _) ?_; rintro _ _ ⟨rfl, rfl⟩ _ _)
      | (refine callK (g2 _) ?_; rintro _ _ ⟨rfl, rfl⟩ _ _)
      | (refine callK (g3 _) ?_; rintro _ _ ⟨rfl, rfl⟩ _ _)
      | (refine callK (e1 _) ?_; rintro _ _ ⟨rfl, rfl⟩ _ _)
      | (refine callK (e2 _) ?_; rintro _ _ ⟨rfl, rfl⟩ _ _)
      | (refine callK (e3 _) ?_; rintro _ _ ⟨rfl, rfl⟩ _ _)
      | (refine callK (e4 _) ?_; rintro _ _ ⟨rfl, rfl⟩ _ _)
      | (refine callK (e5 _) ?_; rintro _ _ ⟨rfl, rfl⟩ _ _)
      | refine wb ?_ | refine wr ?_ | refine wk ?_ | refine we ?_ | refine ws ?_ | refine wq ?_
      | (refine wc rfl (fun hc => ?_) (fun hc => ?_) <;> (try simp at hc) <;> (try omega))
      | (refine ib (fun hc => ?_) (fun hc => ?_) <;> (try omega) <;> (try simp (disch := omega) only [if_pos, if_neg])))
      all_goals (simp [AThen, APost, ares, aresL, ares1] <;> exact AW.le.alloc A _)
    | true => cases rc with
      | false =>
        repeat' (first
        | (refine lwc fun R hR => ?_; simp [wrap_i64, wrap_u64, AW.row_get, astore, insCells, hkk]; try simp (disch := omega) only [if_pos, if_neg, wrap_i64, wrap_u64])
        | (refine hR _ _ ?_; clear hR R) | (refine hK _ _ ?_; clear hK K) | refine lwn ?_ | refine lr ?_ | refine la ?_
        | refine wn fun K hK => ?_
        | simp only [wS, oFbD_0]
        | refine wl Tryz.mx oFbD_0 (by decide +kernel) fun K hK => ?_
        | (refine callK (form_call hn hk _) ?_; rintro _ _ ⟨rfl, rfl⟩ _ _)
        | (refine callK (c1 _) ?_; rintro _ _ ⟨rfl, rfl⟩ _ _)
        | (refine callK (c2 _) ?_; rintro _ _ ⟨rfl, rfl⟩ _ _)
        | (refine callK (c3 _) ?_; rintro _ _ ⟨rfl, rfl⟩ _ _)
        | (refine callK (g1 _) ?_; rintro _ _ ⟨rfl, rfl⟩ _ _)
        | (refine callK (g2 _) ?_; rintro _ _ ⟨rfl, rfl⟩ _ _)
        | (refine callK (g3 _) ?_; rintro _ _ ⟨rfl, rfl⟩ _ _)
        | (refine callK (e1 _) ?_; rintro _ _ ⟨rfl, rfl⟩ _ _)
        | (refine callK (e2 _) ?_; rintro _ _ ⟨rfl, rfl⟩ _ _)
        | (refine callK (e3 _) ?_; rintro _ _ ⟨rfl, rfl⟩ _ _)
        | (refine callK (e4 _) ?_; rintro _ _ ⟨rfl, rfl⟩ _ _)
        | (refine callK (e5 _) ?_; rintro _ _ ⟨rfl, rfl⟩ _ _)
        | refine wb ?_ | refine wr ?_ | refine wk ?_ | refine we ?_ | refine ws ?_ | refine wq ?_
        | (refine wc rfl (fun hc => ?_) (fun hc => ?_) <;> (try simp at hc) <;> (try omega))
        | (refine ib (fun hc => ?_) (fun hc => ?_) <;> (try omega) <;> (try simp (disch := omega) only [if_pos, if_neg])))
        all_goals (simp [AThen, APost, ares, aresL, ares1] <;> exact AW.le.alloc A _)
      | true => cases d1 with
        | true =>
          repeat' (first
          | (refine lwc fun R hR => ?_; simp [wrap_i64, wrap_u64, AW.row_get, astore, insCells, hkk]; try simp (disch := omega) only [if_pos, if_neg, wrap_i64, wrap_u64])
          | (refine hR _ _ ?_; clear hR R) | (refine hK _ _ ?_; clear hK K) | refine lwn ?_ | refine lr ?_ | refine la ?_
          | refine wn fun K hK => ?_
          | simp only [wS, oFbD_0]
          | refine wl Tryz.mx oFbD_0 (by decide +kernel) fun K hK => ?_
          | (refine callK (form_call hn hk _) ?_; rintro _ _ ⟨rfl, rfl⟩ _ _)
          | (refine callK (c1 _) ?_; rintro _ _ ⟨rfl, rfl⟩ _ _)
          | (refine callK (c2 _) ?_; rintro _ _ ⟨rfl, rfl⟩ _ _)
          | (refine callK (c3 _) ?_; rintro _ _ ⟨rfl, rfl⟩ _ _)
          | (refine callK (g1 _) ?_; rintro _ _ ⟨rfl, rfl⟩ _ _)
          | (refine callK (g2 _) ?_; rintro _ _ ⟨rfl, rfl⟩ _ _)
          | (refine callK (g3 _) ?_; rintro _ _ ⟨rfl, rfl⟩ _ _)
          | (refine callK (e1 _) ?_; rintro _ _ ⟨rfl, rfl⟩ _ _)
          | (refine callK (e2 _) ?_; rintro _ _ ⟨rfl, rfl⟩ _ _)
          | (refine callK (e3 _) ?_; rintro _ _ ⟨rfl, rfl⟩ _ _)
          | (refine callK (e4 _) ?_; rintro _ _ ⟨rfl, rfl⟩ _ _)
          | (refine callK (e5 _) ?_; rintro _ _ ⟨rfl, rfl⟩ _ _)
          | refine wb ?_ | refine wr ?_ | refine wk ?_ | refine we ?_ | refine ws ?_ | refine wq ?_
          | (refine wc rfl (fun hc => ?_) (fun hc => ?_) <;> (try simp at hc) <;> (try omega))
          | (refine ib (fun hc => ?_) (fun hc => ?_) <;> (try omega) <;> (try simp (disch := omega) only [if_pos, if_neg])))
          all_goals (simp [AThen, APost, ares, aresL, ares1] <;> exact AW.le.alloc A _)
        | false => cases d2 with
          | true =>
            by_cases q1 : imm < 0
            · have q3 : ¬ (0 ≤ imm) := by omega
              repeat' (first
              | (refine lwc fun R hR => ?_; simp [wrap_i64, wrap_u64, AW.row_get, astore, insCells, hkk, q1, q3]; try simp (disch := omega) only [if_pos, if_neg, wrap_i64, wrap_u64])
              | (refine hR _ _ ?_; clear hR R) | (refine hK _ _ ?_; clear hK K) | refine lwn ?_ | refine lr ?_ | refine la ?_
              | refine wn fun K hK => ?_
              | simp only [wS, oFbD_0]
              | refine wl Tryz.mx oFbD_0 (by decide +kernel) fun K hK => ?_
              | (refine callK (form_call hn hk _) ?_; rintro _ _ ⟨rfl, rfl⟩ _ _)
              | (refine callK (c1 _) ?_; rintro _ _ ⟨rfl, rfl⟩ _ _)
              | (refine callK (c2 _) ?_; rintro _ _ ⟨rfl, rfl⟩ _ _)
              | (refine callK (c3 _) ?_; rintro _ _ ⟨rfl, rfl⟩ _ _)
              | (refine callK (g1 _) ?_; rintro _ _ ⟨rfl, rfl⟩ _ _)
              | (refine callK (g2 _) ?_; rintro _ _ ⟨rfl, rfl⟩ _ _)
              | (refine callK (g3 _) ?_; rintro _ _ ⟨rfl, rfl⟩ _ _)
              | (refine callK (e1 _) ?_; rintro _ _ ⟨rfl, rfl⟩ _ _)
              | (refine callK (e2 _) ?_; rintro _ _ ⟨rfl, rfl⟩ _ _)
              | (refine callK (e3 _) ?_; rintro _ _ ⟨rfl, rfl⟩ _ _)
              | (refine callK (e4 _) ?_; rintro _ _ ⟨rfl, rfl⟩ _ _)
              | (refine callK (e5 _) ?_; rintro _ _ ⟨rfl, rfl⟩ _ _)
              | refine wb ?_ | refine wr ?_ | refine wk ?_ | refine we ?_ | refine ws ?_ | refine wq ?_
              | (refine wc rfl (fun hc => ?_) (fun hc => ?_) <;> (try simp at hc) <;> (try omega))
              | (refine ib (fun hc => ?_) (fun hc => ?_) <;> (try omega) <;> (try simp (disch := omega) only [if_pos, if_neg])))
              all_goals (simp [AThen, APost, ares, aresL, ares1, q3] <;> exact AW.le.alloc A _)
            · have q3 : 0 ≤ imm := by omega
              by_cases q2 : 21 < imm
              · have q4 : ¬ (imm ≤ 21) := by omega
                repeat' (first
                | (refine lwc fun R hR => ?_; simp [wrap_i64, wrap_u64, AW.row_get, astore, insCells, hkk, q1, q2, q3, q4]; try simp (disch := omega) only [if_pos, if_neg, wrap_i64, wrap_u64])
                | (refine hR _ _ ?_; clear hR R) | (refine hK _ _ ?_; clear hK K) | refine lwn ?_ | refine lr ?_ | refine la ?_
                | refine wn fun K hK => ?_
                | simp only [wS, oFbD_0]
                | refine wl Tryz.mx oFbD_0 (by decide +kernel) fun K hK => ?_
                | (refine callK (form_call hn hk _) ?_; rintro _ _ ⟨rfl, rfl⟩ _ _)
                | (refine callK (c1 _) ?_; rintro _ _ ⟨rfl, rfl⟩ _ _)
                | (refine callK (c2 _) ?_; rintro _ _ ⟨rfl, rfl⟩ _ _)
                | (refine callK (c3 _) ?_; rintro _ _ ⟨rfl, rfl⟩ _ _)
                | (refine callK (g1 _) ?_; rintro _ _ ⟨rfl, rfl⟩ _ _)
                | (refine callK (g2 _) ?_; rintro _ _ ⟨rfl, rfl⟩ _ _)
                | (refine callK (g3 _) ?_; rintro _ _ ⟨rfl, rfl⟩ _ _)
                | (refine callK (e1 _) ?_; rintro _ _ ⟨rfl, rfl⟩ _ _)
                | (refine callK (e2 _) ?_; rintro _ _ ⟨rfl, rfl⟩ _ _)
                | (refine callK (e3 _) ?_; rintro _ _ ⟨rfl, rfl⟩ _ _)
                | (refine callK (e4 _) ?_; rintro _ _ ⟨rfl, rfl⟩ _ _)
                | (refine callK (e5 _) ?_; rintro _ _ ⟨rfl, rfl⟩ _ _)
                | refine wb ?_ | refine wr ?_ | refine wk ?_ | refine we ?_ | refine ws ?_ | refine wq ?_
                | (refine wc rfl (fun hc => ?_) (fun hc => ?_) <;> (try simp at hc) <;> (try omega))
                | (refine ib (fun hc => ?_) (fun hc => ?_) <;> (try omega) <;> (try simp (disch := omega) only [if_pos, if_neg])))
                all_goals (simp [AThen, APost, ares, aresL, ares1, q3, q4] <;> exact AW.le.alloc A _)
              · have q4 : imm ≤ 21 := by omega
                repeat' (first
                | (refine lwc fun R hR => ?_; simp [wrap_i64, wrap_u64, AW.row_get, astore, insCells, hkk, q1, q2, q3, q4]; try simp (disch := omega) only [if_pos, if_neg, wrap_i64, wrap_u64])
                | (refine hR _ _ ?_; clear hR R) | (refine hK _ _ ?_; clear hK K) | refine lwn ?_ | refine lr ?_ | refine la ?_
                | refine wn fun K hK => ?_
                | simp only [wS, oFbD_0]
                | refine wl Tryz.mx oFbD_0 (by decide +kernel) fun K hK => ?_
                | (refine callK (form_call hn hk _) ?_; rintro _ _ ⟨rfl, rfl⟩ _ _)
                | (refine callK (c1 _) ?_; rintro _ _ ⟨rfl, rfl⟩ _ _)
                | (refine callK (c2 _) ?_; rintro _ _ ⟨rfl, rfl⟩ _ _)
                | (refine callK (c3 _) ?_; rintro _ _ ⟨rfl, rfl⟩ _ _)
                | (refine callK (g1 _) ?_; rintro _ _ ⟨rfl, rfl⟩ _ _)
                | (refine callK (g2 _) ?_; rintro _ _ ⟨rfl, rfl⟩ _ _)
                | (refine callK (g3 _) ?_; rintro _ _ ⟨rfl, rfl⟩ _ _)
                | (refine callK (e1 _) ?_; rintro _ _ ⟨rfl, rfl⟩ _ _)
                | (refine callK (e2 _) ?_; rintro _ _ ⟨rfl, rfl⟩ _ _)
                | (refine callK (e3 _) ?_; rintro _ _ ⟨rfl, rfl⟩ _ _)
                | (refine callK (e4 _) ?_; rintro _ _ ⟨rfl, rfl⟩ _ _)
                | (refine callK (e5 _) ?_; rintro _ _ ⟨rfl, rfl⟩ _ _)
                | refine wb ?_ | refine wr ?_ | refine wk ?_ | refine we ?_ | refine ws ?_ | refine wq ?_
                | (refine wc rfl (fun hc => ?_) (fun hc => ?_) <;> (try simp at hc) <;> (try omega))
                | (refine ib (fun hc => ?_) (fun hc => ?_) <;> (try omega) <;> (try simp (disch := omega) only [if_pos, if_neg])))
                all_goals (simp [AThen, APost, ares, aresL, ares1, q3, q4] <;> exact AW.le.alloc A _)
          | false => cases d3 with
            | true =>
              by_cases q1 : imm < 0
              · have q3 : ¬ (0 ≤ imm) := by omega
                repeat' (first
                | (refine lwc fun R hR => ?_; simp [wrap_i64, wrap_u64, AW.row_get, astore, insCells, hkk, q1, q3]; try simp (disch := omega) only [if_pos, if_neg, wrap_i64, wrap_u64])
                | (refine hR _ _ ?_; clear hR R) | (refine hK _ _ ?_; clear hK K) | refine lwn ?_ | refine lr ?_ | refine la ?_
                | refine wn fun K hK => ?_
                | simp only [wS, oFbD_0]
                | refine wl Tryz.mx oFbD_0 (by decide +kernel) fun K hK => ?_
                | (refine callK (form_call hn hk _) ?_; rintro _ _ ⟨rfl, rfl⟩ _ _)
                | (refine callK (c1 _) ?_; rintro _ _ ⟨rfl, rfl⟩ _ _)
                | (refine callK (c2 _) ?_; rintro _ _ ⟨rfl, rfl⟩ _ _)
                | (refine callK (c3 _) ?_; rintro _ _ ⟨rfl, rfl⟩ _ _)
                | (refine callK (g1 _) ?_; rintro _ _ ⟨rfl, rfl⟩ _ _)
                | (refine callK (g2 _) ?_; rintro _ _ ⟨rfl, rfl⟩ _ _)
                | (refine callK (g3 _) ?_; rintro _ _ ⟨rfl, rfl⟩ _ _)
                | (refine callK (e1 _) ?_; rintro _ _ ⟨rfl, rfl⟩ _ _)
                | (refine callK (e2 _) ?_; rintro _ _ ⟨rfl, rfl⟩ _ _)
                | (refine callK (e3 _) ?_; rintro _ _ ⟨rfl, rfl⟩ _ _)
                | (refine callK (e4 _) ?_; rintro _ _ ⟨rfl, rfl⟩ _ _)
                | (refine callK (e5 _) ?_; rintro _ _ ⟨rfl, rfl⟩ _ _)
                | refine wb ?_ | refine wr ?_ | refine wk ?_ | refine we ?_ | refine ws ?_ | refine wq ?_
                | (refine wc rfl (fun hc => ?_) (fun hc => ?_) <;> (try simp at hc) <;> (try omega))
                | (refine ib (fun hc => ?_) (fun hc => ?_) <;> (try omega) <;> (try simp (disch := omega) only [if_pos, if_neg])))
                all_goals (simp [AThen, APost, ares, aresL, ares1, q3] <;> exact AW.le.alloc A _)
              · have q3 : 0 ≤ imm := by omega
                by_cases q2 : 64 < imm
                · have q4 : ¬ (imm ≤ 64) := by omega
                  repeat' (first
                  | (refine lwc fun R hR => ?_; simp [wrap_i64, wrap_u64, AW.row_get, astore, insCells, hkk, q1, q2, q3, q4]; try simp (disch := omega) only [if_pos, if_neg, wrap_i64, wrap_u64])
                  | (refine hR _ _ ?_; clear hR R) | (refine hK _ _ ?_; clear hK K) | refine lwn ?_ | refine lr ?_ | refine la ?_
                  | refine wn fun K hK => ?_
                  | simp only [wS, oFbD_0]
                  | refine wl Tryz.mx oFbD_0 (by decide +kernel) fun K hK => ?_
                  | (refine callK (form_call hn hk _) ?_; rintro _ _ ⟨rfl, rfl⟩ _ _)
                  | (refine callK (c1 _) ?_; rintro _ _ ⟨rfl, rfl⟩ _ _)
                  | (refine callK (c2 _) ?_; rintro _ _ ⟨rfl, rfl⟩ _ _)
                  | (refine callK (c3 _) ?_; rintro _ _ ⟨rfl, rfl⟩ _ _)
                  | (refine callK (g1 _) ?_; rintro _ _ ⟨rfl, rfl⟩ _ _)
                  | (refine callK (g2 _) ?_; rintro _ _ ⟨rfl, rfl⟩ _ _)
                  | (refine callK (g3 _) ?_; rintro _ _ ⟨rfl, rfl⟩ _ _)
                  | (refine callK (e1 _) ?_; rintro _ _ ⟨rfl, rfl⟩ _ _)
                  | (refine callK (e2 _) ?_; rintro _ _ ⟨rfl, rfl⟩ _ _)
                  | (refine callK (e3 _) ?_; rintro _ _ ⟨rfl, rfl⟩ _ _)
                  | (refine callK (e4 _) ?_; rintro _ _ ⟨rfl, rfl⟩ _ _)
                  | (refine callK (e5 _) ?_; rintro _ _ ⟨rfl, rfl⟩ _ _)
                  | refine wb ?_ | refine wr ?_ | refine wk ?_ | refine we ?_ | refine ws ?_ | refine wq ?_
                  | (refine wc rfl (fun hc => ?_) (fun hc => ?_) <;> (try simp at hc) <;> (try omega))
                  | (refine ib (fun hc => ?_) (fun hc => ?_) <;> (try omega) <;> (try simp (disch := omega) only [if_pos, if_neg])))
                  all_goals (simp [AThen, APost, ares, aresL, ares1, q3, q4] <;> exact AW.le.alloc A _)
                · have q4 : imm ≤ 64 := by omega
                  repeat' (first
                  | (refine lwc fun R hR => ?_; simp [wrap_i64, wrap_u64, AW.row_get, astore, insCells, hkk, q1, q2, q3, q4]; try simp (disch := omega) only [if_pos, if_neg, wrap_i64, wrap_u64])
                  | (refine hR _ _ ?_; clear hR R) | (refine hK _ _ ?_; clear hK K) | refine lwn ?_ | refine lr ?_ | refine la ?_
                  | refine wn fun K hK => ?_
                  | simp only [wS, oFbD_0]
                  | refine wl Tryz.mx oFbD_0 (by decide +kernel) fun K hK => ?_
                  | (refine callK (form_call hn hk _) ?_; rintro _ _ ⟨rfl, rfl⟩ _ _)
                  | (refine callK (c1 _) ?_; rintro _ _ ⟨rfl, rfl⟩ _ _)
                  | (refine callK (c2 _) ?_; rintro _ _ ⟨rfl, rfl⟩ _ _)
                  | (refine callK (c3 _) ?_; rintro _ _ ⟨rfl, rfl⟩ _ _)
                  | (refine callK (g1 _) ?_; rintro _ _ ⟨rfl, rfl⟩ _ _)
                  | (refine callK (g2 _) ?_; rintro _ _ ⟨rfl, rfl⟩ _ _)
                  | (refine callK (g3 _) ?_; rintro _ _ ⟨rfl, rfl⟩ _ _)
                  | (refine callK (e1 _) ?_; rintro _ _ ⟨rfl, rfl⟩ _ _)
                  | (refine callK (e2 _) ?_; rintro _ _ ⟨rfl, rfl⟩ _ _)
                  | (refine callK (e3 _) ?_; rintro _ _ ⟨rfl, rfl⟩ _ _)
                  | (refine callK (e4 _) ?_; rintro _ _ ⟨rfl, rfl⟩ _ _)
                  | (refine callK (e5 _) ?_; rintro _ _ ⟨rfl, rfl⟩ _ _)
                  | refine wb ?_ | refine wr ?_ | refine wk ?_ | refine we ?_ | refine ws ?_ | refine wq ?_
                  | (refine wc rfl (fun hc => ?_) (fun hc => ?_) <;> (try simp at hc) <;> (try omega))
                  | (refine ib (fun hc => ?_) (fun hc => ?_) <;> (try omega) <;> (try simp (disch := omega) only [if_pos, if_neg])))
                  all_goals (simp [AThen, APost, ares, aresL, ares1, q3, q4] <;> exact AW.le.alloc A _)
            | false => cases d4 with
              | true =>
                by_cases q1 : imm < 1
                · have q3 : ¬ (1 ≤ imm) := by omega
                  repeat' (first
                  | (refine lwc fun R hR => ?_; simp [wrap_i64, wrap_u64, AW.row_get, astore, insCells, hkk, q1, q3]; try simp (disch := omega) only [if_pos, if_neg, wrap_i64, wrap_u64])
                  | (refine hR _ _ ?_; clear hR R) | (refine hK _ _ ?_; clear hK K) | refine lwn ?_ | refine lr ?_ | refine la ?_
                  | refine wn fun K hK => ?_
                  | simp only [wS, oFbD_0]
                  | refine wl Tryz.mx oFbD_0 (by decide +kernel) fun K hK => ?_
                  | (refine callK (form_call hn hk _) ?_; rintro _ _ ⟨rfl, rfl⟩ _ _)
                  | (refine callK (c1 _) ?_; rintro _ _ ⟨rfl, rfl⟩ _ _)
                  | (refine callK (c2 _) ?_; rintro _ _ ⟨rfl, rfl⟩ _ _)
                  | (refine callK (c3 _) ?_; rintro _ _ ⟨rfl, rfl⟩ _ _)
                  | (refine callK (g1 _) ?_; rintro _ _ ⟨rfl, rfl⟩ _ _)
                  | (refine callK (g2 _) ?_; rintro _ _ ⟨rfl, rfl⟩ _ _)
                  | (refine callK (g3 _) ?_; rintro _ _ ⟨rfl, rfl⟩ _ _)
                  | (refine callK (e1 _) ?_; rintro _ _ ⟨rfl, rfl⟩ _ _)
                  | (refine callK (e2 _) ?_; rintro _ _ ⟨rfl, rfl⟩ _ _)
                  | (refine callK (e3 _) ?_; rintro _ _ ⟨rfl, rfl⟩ _ _)
                  | (refine callK (e4 _) ?_; rintro _ _ ⟨rfl, rfl⟩ _ _)
                  | (refine callK (e5 _) ?_; rintro _ _ ⟨rfl, rfl⟩ _ _)
                  | refine wb ?_ | refine wr ?_ | refine wk ?_ | refine we ?_ | refine ws ?_ | refine wq ?_
                  | (refine wc rfl (fun hc => ?_) (fun hc => ?_) <;> (try simp at hc) <;> (try omega))
                  | (refine ib (fun hc => ?_) (fun hc => ?_) <;> (try omega) <;> (try simp (disch := omega) only [if_pos, if_neg])))
                  all_goals (simp [AThen, APost, ares, aresL, ares1, q3] <;> exact AW.le.alloc A _)
                · have q3 : 1 ≤ imm := by omega
                  by_cases q2 : 8 < imm
                  · have q4 : ¬ (imm ≤ 8) := by omega
                    repeat' (first
                    | (refine lwc fun R hR => ?_; simp [wrap_i64, wrap_u64, AW.row_get, astore, insCells, hkk, q1, q2, q3, q4]; try simp (disch := omega) only [if_pos, if_neg, wrap_i64, wrap_u64])
                    | (refine hR _ _ ?_; clear hR R) | (refine hK _ _ ?_; clear hK K) | refine lwn ?_ | refine lr ?_ | refine la ?_
                    | refine wn fun K hK => ?_
                    | simp only [wS, oFbD_0]
                    | refine wl Tryz.mx oFbD_0 (by decide +kernel) fun K hK => ?_
                    | (refine callK (form_call hn hk _) ?_; rintro _ _ ⟨rfl, rfl⟩ _ _)
                    | (refine callK (c1 _) ?_; rintro _ _ ⟨rfl, rfl⟩ _ _)
                    | (refine callK (c2 _) ?_; rintro _ _ ⟨rfl, rfl⟩ _ _)
                    | (refine callK (c3 _) ?_; rintro _ _ ⟨rfl, rfl⟩ _ _)
                    | (refine callK (g1 _) ?_; rintro _ _ ⟨rfl, rfl⟩ _ _)
                    | (refine callK (g2 _) ?_; rintro _ _ ⟨rfl, rfl⟩ _ _)
                    | (refine callK (g3 _) ?_; rintro _ _ ⟨rfl, rfl⟩ _ _)
                    | (refine callK (e1 _) ?_; rintro _ _ ⟨rfl, rfl⟩ _ _)
                    | (refine callK (e2 _) ?_; rintro _ _ ⟨rfl, rfl⟩ _ _)
                    | (refine callK (e3 _) ?_; rintro _ _ ⟨rfl, rfl⟩ _ _)
                    | (refine callK (e4 _) ?_; rintro _ _ ⟨rfl, rfl⟩ _ _)
                    | (refine callK (e5 _) ?_; rintro _ _ ⟨rfl, rfl⟩ _ _)
                    | refine wb ?_ | refine wr ?_ | refine wk ?_ | refine we ?_ | refine ws ?_ | refine wq ?_
                    | (refine wc rfl (fun hc => ?_) (fun hc => ?_) <;> (try simp at hc) <;> (try omega))
                    | (refine ib (fun hc => ?_) (fun hc => ?_) <;> (try omega) <;> (try simp (disch := omega) only [if_pos, if_neg])))
                    all_goals (simp [AThen, APost, ares, aresL, ares1, q3, q4] <;> exact AW.le.alloc A _)
                  · have q4 : imm ≤ 8 := by omega
                    repeat' (first
                    | (refine lwc fun R hR => ?_; simp [wrap_i64, wrap_u64, AW.row_get, astore, insCells, hkk, q1, q2, q3, q4]; try simp (disch := omega) only [if_pos, if_neg, wrap_i64, wrap_u64])
                    | (refine hR _ _ ?_; clear hR R) | (refine hK _ _ ?_; clear hK K) | refine lwn ?_ | refine lr ?_ | refine la ?_
                    | refine wn fun K hK => ?_
                    | simp only [wS, oFbD_0]
                    | refine wl Tryz.mx oFbD_0 (by decide +kernel) fun K hK => ?_
                    | (refine callK (form_call hn hk _) ?_; rintro _ _ ⟨rfl, rfl⟩ _ _)
                    | (refine callK (c1 _) ?_; rintro _ _ ⟨rfl, rfl⟩ _ _)
                    | (refine callK (c2 _) ?_; rintro _ _ ⟨rfl, rfl⟩ _ _)
                    | (refine callK (c3 _) ?_; rintro _ _ ⟨rfl, rfl⟩ _ _)
                    | (refine callK (g1 _) ?_; rintro _ _ ⟨rfl, rfl⟩ _ _)
                    | (refine callK (g2 _) ?_; rintro _ _ ⟨rfl, rfl⟩ _ _)
                    | (refine callK (g3 _) ?_; rintro _ _ ⟨rfl, rfl⟩ _ _)
                    | (refine callK (e1 _) ?_; rintro _ _ ⟨rfl, rfl⟩ _ _)
                    | (refine callK (e2 _) ?_; rintro _ _ ⟨rfl, rfl⟩ _ _)
                    | (refine callK (e3 _) ?_; rintro _ _ ⟨rfl, rfl⟩ _ _)
                    | (refine callK (e4 _) ?_; rintro _ _ ⟨rfl, rfl⟩ _ _)
                    | (refine callK (e5 _) ?_; rintro _ _ ⟨rfl, rfl⟩ _ _)
                    | refine wb ?_ | refine wr ?_ | refine wk ?_ | refine we ?_ | refine ws ?_ | refine wq ?_
                    | (refine wc rfl (fun hc => ?_) (fun hc => ?_) <;> (try simp at hc) <;> (try omega))
                    | (refine ib (fun hc => ?_) (fun hc => ?_) <;> (try omega) <;> (try simp (disch := omega) only [if_pos, if_neg])))
                    all_goals (simp [AThen, APost, ares, aresL, ares1, q3, q4] <;> exact AW.le.alloc A _)
              | false => cases d5 with
                | true =>
                  by_cases q1 : imm < 0
                  · have q3 : ¬ (0 ≤ imm) := by omega
                    repeat' (first
                    | (refine lwc fun R hR => ?_; simp [wrap_i64, wrap_u64, AW.row_get, astore, insCells, hkk, q1, q3]; try simp (disch := omega) only [if_pos, if_neg, wrap_i64, wrap_u64])
                    | (refine hR _ _ ?_; clear hR R) | (refine hK _ _ ?_; clear hK K) | refine lwn ?_ | refine lr ?_ | refine la ?_
                    | refine wn fun K hK => ?_
                    | simp only [wS, oFbD_0]
                    | refine wl Tryz.mx oFbD_0 (by decide +kernel) fun K hK => ?_
                    | (refine callK (form_call hn hk _) ?_; rintro _ _ ⟨rfl, rfl⟩ _ _)
                    | (refine callK (c1 _) ?_; rintro _ _ ⟨rfl, rfl⟩ _ _)
                    | (refine callK (c2 _) ?_; rintro _ _ ⟨rfl, rfl⟩ _ _)
                    | (refine callK (c3 _) ?_; rintro _ _ ⟨rfl, rfl⟩ _ _)
                    | (refine callK (g1 _) ?_; rintro _ _ ⟨rfl, rfl⟩ _ _)
                    | (refine callK (g2 _) ?_; rintro _ _ ⟨rfl, rfl⟩ _ _)
                    | (refine callK (g3 _) ?_; rintro _ _ ⟨rfl, rfl⟩ _ _)
                    | (refine callK (e1 _) ?_; rintro _ _ ⟨rfl, rfl⟩ _ _)
                    | (refine callK (e2 _) ?_; rintro _ _ ⟨rfl, rfl⟩ _ _)
                    | (refine callK (e3 _) ?_; rintro _ _ ⟨rfl, rfl⟩ _ _)
                    | (refine callK (e4 _) ?_; rintro _ _ ⟨rfl, rfl⟩ _ _)
                    | (refine callK (e5 _) ?_; rintro _ _ ⟨rfl, rfl⟩ _ _)
                    | refine wb ?_ | refine wr ?_ | refine wk ?_ | refine we ?_ | refine ws ?_ | refine wq ?_
                    | (refine wc rfl (fun hc => ?_) (fun hc => ?_) <;> (try simp at hc) <;> (try omega))
                    | (refine ib (fun hc => ?_) (fun hc => ?_) <;> (try omega) <;> (try simp (disch := omega) only [if_pos, if_neg])))
                    all_goals (simp [AThen, APost, ares, aresL, ares1, q3] <;> exact AW.le.alloc A _)
                  · have q3 : 0 ≤ imm := by omega
                    by_cases q2 : 3 < imm
                    · have q4 : ¬ (imm ≤ 3) := by omega
                      repeat' (first
                      | (refine lwc fun R hR => ?_; simp [wrap_i64, wrap_u64, AW.row_get, astore, insCells, hkk, q1, q2, q3, q4]; try simp (disch := omega) only [if_pos, if_neg, wrap_i64, wrap_u64])
                      | (refine hR _ _ ?_; clear hR R) | (refine hK _ _ ?_; clear hK K) | refine lwn ?_ | refine lr ?_ | refine la ?_
                      | refine wn fun K hK => ?_
                      | simp only [wS, oFbD_0]
                      | refine wl Tryz.mx oFbD_0 (by decide +kernel) fun K hK => ?_
                      | (refine callK (form_call hn hk _) ?_; rintro _ _ ⟨rfl, rfl⟩ _ _)
                      | (refine callK (c1 _) ?_; rintro _ _ ⟨rfl, rfl⟩ _ _)
                      | (refine callK (c2 _) ?_; rintro _ _ ⟨rfl, rfl⟩ _ _)
                      | (refine callK (c3 _) ?_; rintro _ _ ⟨rfl, rfl⟩ _ _)
                      | (refine callK (g1 _) ?_; rintro _ _ ⟨rfl, rfl⟩ _ _)
                      | (refine callK (g2 _) ?_; rintro _ _ ⟨rfl, rfl⟩ _ _)
                      | (refine callK (g3 _) ?_; rintro _ _ ⟨rfl, rfl⟩ _ _)
                      | (refine callK (e1 _) ?_; rintro _ _ ⟨rfl, rfl⟩ _ _)
                      | (refine callK (e2 _) ?_; rintro _ _ ⟨rfl, rfl⟩ _ _)
                      | (refine callK (e3 _) ?_; rintro _ _ ⟨rfl, rfl⟩ _ _)
                      | (refine callK (e4 _) ?_; rintro _ _ ⟨rfl, rfl⟩ _ _)
                      | (refine callK (e5 _) ?_; rintro _ _ ⟨rfl, rfl⟩ _ _)
                      | refine wb ?_ | refine wr ?_ | refine wk ?_ | refine we ?_ | refine ws ?_ | refine wq ?_
                      | (refine wc rfl (fun hc => ?_) (fun hc => ?_) <;> (try simp at hc) <;> (try omega))
                      | (refine ib (fun hc => ?_) (fun hc => ?_) <;> (try omega) <;> (try simp (disch := omega) only [if_pos, if_neg])))
                      all_goals (simp [AThen, APost, ares, aresL, ares1, q3, q4] <;> exact AW.le.alloc A _)
                    · have q4 : imm ≤ 3 := by omega
                      repeat' (first
                      | (refine lwc fun R hR => ?_; simp [wrap_i64, wrap_u64, AW.row_get, astore, insCells, hkk, q1, q2, q3, q4]; try simp (disch := omega) only [if_pos, if_neg, wrap_i64, wrap_u64])
                      | (refine hR _ _ ?_; clear hR R) | (refine hK _ _ ?_; clear hK K) | refine lwn ?_ | refine lr ?_ | refine la ?_
                      | refine wn fun K hK => ?_
                      | simp only [wS, oFbD_0]
                      | refine wl Tryz.mx oFbD_0 (by decide +kernel) fun K hK => ?_
                      | (refine callK (form_call hn hk _) ?_; rintro _ _ ⟨rfl, rfl⟩ _ _)
                      | (refine callK (c1 _) ?_; rintro _ _ ⟨rfl, rfl⟩ _ _)
                      | (refine callK (c2 _) ?_; rintro _ _ ⟨rfl, rfl⟩ _ _)
                      | (refine callK (c3 _) ?_; rintro _ _ ⟨rfl, rfl⟩ _ _)
                      | (refine callK (g1 _) ?_; rintro _ _ ⟨rfl, rfl⟩ _ _)
                      | (refine callK (g2 _) ?_; rintro _ _ ⟨rfl, rfl⟩ _ _)
                      | (refine callK (g3 _) ?_; rintro _ _ ⟨rfl, rfl⟩ _ _)
                      | (refine callK (e1 _) ?_; rintro _ _ ⟨rfl, rfl⟩ _ _)
                      | (refine callK (e2 _) ?_; rintro _ _ ⟨rfl, rfl⟩ _ _)
                      | (refine callK (e3 _) ?_; rintro _ _ ⟨rfl, rfl⟩ _ _)
                      | (refine callK (e4 _) ?_; rintro _ _ ⟨rfl, rfl⟩ _ _)
                      | (refine callK (e5 _) ?_; rintro _ _ ⟨rfl, rfl⟩ _ _)
                      | refine wb ?_ | refine wr ?_ | refine wk ?_ | refine we ?_ | refine ws ?_ | refine wq ?_
                      | (refine wc rfl (fun hc => ?_) (fun hc => ?_) <;> (try simp at hc) <;> (try omega))
                      | (refine ib (fun hc => ?_) (fun hc => ?_) <;> (try omega) <;> (try simp (disch := omega) only [if_pos, if_neg])))
                      all_goals (simp [AThen, APost, ares, aresL, ares1, q3, q4] <;> exact AW.le.alloc A _)
                | false =>
                  by_cases q1 : imm < 0
                  · have q3 : ¬ (0 ≤ imm) := by omega
                    repeat' (first
                    | (refine lwc fun R hR => ?_; simp [wrap_i64, wrap_u64, AW.row_get, astore, insCells, hkk, q1, q3]; try simp (disch := omega) only [if_pos, if_neg, wrap_i64, wrap_u64])
                    | (refine hR _ _ ?_; clear hR R) | (refine hK _ _ ?_; clear hK K) | refine lwn ?_ | refine lr ?_ | refine la ?_
                    | refine wn fun K hK => ?_
                    | simp only [wS, oFbD_0]
                    | refine wl Tryz.mx oFbD_0 (by decide +kernel) fun K hK => ?_
                    | (refine callK (form_call hn hk _) ?_; rintro _ _ ⟨rfl, rfl⟩ _ _)
                    | (refine callK (c1 _) ?_; rintro _ _ ⟨rfl, rfl⟩ _ _)
                    | (refine callK (c2 _) ?_; rintro _ _ ⟨rfl, rfl⟩ _ _)
                    | (refine callK (c3 _) ?_; rintro _ _ ⟨rfl, rfl⟩ _ _)
                    | (refine callK (g1 _) ?_; rintro _ _ ⟨rfl, rfl⟩ _ _)
                    | (refine callK (g2 _) ?_; rintro _ _ ⟨rfl, rfl⟩ _ _)
                    | (refine callK (g3 _) ?_; rintro _ _ ⟨rfl, rfl⟩ _ _)
                    | (refine callK (e1 _) ?_; rintro _ _ ⟨rfl, rfl⟩ _ _)
                    | (refine callK (e2 _) ?_; rintro _ _ ⟨rfl, rfl⟩ _ _)
                    | (refine callK (e3 _) ?_; rintro _ _ ⟨rfl, rfl⟩ _ _)
                    | (refine callK (e4 _) ?_; rintro _ _ ⟨rfl, rfl⟩ _ _)
                    | (refine callK (e5 _) ?_; rintro _ _ ⟨rfl, rfl⟩ _ _)
                    | refine wb ?_ | refine wr ?_ | refine wk ?_ | refine we ?_ | refine ws ?_ | refine wq ?_
                    | (refine wc rfl (fun hc => ?_) (fun hc => ?_) <;> (try simp at hc) <;> (try omega))
                    | (refine ib (fun hc => ?_) (fun hc => ?_) <;> (try omega) <;> (try simp (disch := omega) only [if_pos, if_neg])))
                    all_goals (simp [AThen, APost, ares, aresL, ares1, q3] <;> exact AW.le.alloc A _)
                  · have q3 : 0 ≤ imm := by omega
                    by_cases q2 : 0 < imm
                    · have q4 : ¬ (imm ≤ 0) := by omega
                      repeat' (first
                      | (refine lwc fun R hR => ?_; simp [wrap_i64, wrap_u64, AW.row_get, astore, insCells, hkk, q1, q2, q3, q4]; try simp (disch := omega) only [if_pos, if_neg, wrap_i64, wrap_u64])
                      | (refine hR _ _ ?_; clear hR R) | (refine hK _ _ ?_; clear hK K) | refine lwn ?_ | refine lr ?_ | refine la ?_
                      | refine wn fun K hK => ?_
                      | simp only [wS, oFbD_0]
                      | refine wl Tryz.mx oFbD_0 (by decide +kernel) fun K hK => ?_
                      | (refine callK (form_call hn hk _) ?_; rintro _ _ ⟨rfl, rfl⟩ _ _)
                      | (refine callK (c1 _) ?_; rintro _ _ ⟨rfl, rfl⟩ _ _)
                      | (refine callK (c2 _) ?_; rintro _ _ ⟨rfl, rfl⟩ _ _)
                      | (refine callK (c3 _) ?_; rintro _ _ ⟨rfl, rfl⟩ _ _)
                      | (refine callK (g1 _) ?_; rintro _ _ ⟨rfl, rfl⟩ _ _)
                      | (refine callK (g2 _) ?_; rintro _ _ ⟨rfl, rfl⟩ _ _)
                      | (refine callK (g3 _) ?_; rintro _ _ ⟨rfl, rfl⟩ _ _)
                      | (refine callK (e1 _) ?_; rintro _ _ ⟨rfl, rfl⟩ _ _)
                      | (refine callK (e2 _) ?_; rintro _ _ ⟨rfl, rfl⟩ _ _)
                      | (refine callK (e3 _) ?_; rintro _ _ ⟨rfl, rfl⟩ _ _)
                      | (refine callK (e4 _) ?_; rintro _ _ ⟨rfl, rfl⟩ _ _)
                      | (refine callK (e5 _) ?_; rintro _ _ ⟨rfl, rfl⟩ _ _)
                      | refine wb ?_ | refine wr ?_ | refine wk ?_ | refine we ?_ | refine ws ?_ | refine wq ?_
                      | (refine wc rfl (fun hc => ?_) (fun hc => ?_) <;> (try simp at hc) <;> (try omega))
                      | (refine ib (fun hc => ?_) (fun hc => ?_) <;> (try omega) <;> (try simp (disch := omega) only [if_pos, if_neg])))
                      all_goals (simp [AThen, APost, ares, aresL, ares1, q3, q4] <;> exact AW.le.alloc A _)
                    · have q4 : imm ≤ 0 := by omega
                      repeat' (first
                      | (refine lwc fun R hR => ?_; simp [wrap_i64, wrap_u64, AW.row_get, astore, insCells, hkk, q1, q2, q3, q4]; try simp (disch := omega) only [if_pos, if_neg, wrap_i64, wrap_u64])
                      | (refine hR _ _ ?_; clear hR R) | (refine hK _ _ ?_; clear hK K) | refine lwn ?_ | refine lr ?_ | refine la ?_
                      | refine wn fun K hK => ?_
                      | simp only [wS, oFbD_0]
                      | refine wl Tryz.mx oFbD_0 (by decide +kernel) fun K hK => ?_
                      | (refine callK (form_call hn hk _) ?_; rintro _ _ ⟨rfl, rfl⟩ _ _)
                      | (refine callK (c1 _) ?_; rintro _ _ ⟨rfl, rfl⟩ _ _)
                      | (refine callK (c2 _) ?_; rintro _ _ ⟨rfl, rfl⟩ _ _)
                      | (refine callK (c3 _) ?_; rintro _ _ ⟨rfl, rfl⟩ _ _)
                      | (refine callK (g1 _) ?_; rintro _ _ ⟨rfl, rfl⟩ _ _)
                      | (refine callK (g2 _) ?_; rintro _ _ ⟨rfl, rfl⟩ _ _)
                      | (refine callK (g3 _) ?_; rintro _ _ ⟨rfl, rfl⟩ _ _)
                      | (refine callK (e1 _) ?_; rintro _ _ ⟨rfl, rfl⟩ _ _)
                      | (refine callK (e2 _) ?_; rintro _ _ ⟨rfl, rfl⟩ _ _)
                      | (refine callK (e3 _) ?_; rintro _ _ ⟨rfl, rfl⟩ _ _)
                      | (refine callK (e4 _) ?_; rintro _ _ ⟨rfl, rfl⟩ _ _)
                      | (refine callK (e5 _) ?_; rintro _ _ ⟨rfl, rfl⟩ _ _)
                      | refine wb ?_ | refine wr ?_ | refine wk ?_ | refine we ?_ | refine ws ?_ | refine wq ?_
                      | (refine wc rfl (fun hc => ?_) (fun hc => ?_) <;> (try simp at hc) <;> (try omega))
                      | (refine ib (fun hc => ?_) (fun hc => ?_) <;> (try omega) <;> (try simp (disch := omega) only [if_pos, if_neg])))
                      all_goals (simp [AThen, APost, ares, aresL, ares1, q3, q4] <;> exact AW.le.alloc A _)
end Go.Stx
