/-
  The lists of blocks of any valid configuration: made without fault.
-/
import Derived.Test.YtcffnkgjmneaeaaGreatDoorFbQ
namespace Go.Stx
open Go Go.Proofs
attribute [local irreducible] AWP LWalk ACall ARounds lops nops
set_option linter.unusedVariables false
set_option linter.unusedSimpArgs false
set_option linter.unusedSectionVars false
set_option maxRecDepth 20000
variable [Gl]

theorem cfg_ok {c : CfgS} (h : cfgErr c = 0) : (1 ≤ c.words ∧ c.words ≤ 64) ∧ (1 ≤ c.orecs ∧ c.orecs ≤ 64) ∧ cntOk c ∧ c.nb ≤ 64 := by
  unfold cfgErr at h
  split at h
  · omega
  · rename_i h1
    split at h
    · omega
    · rename_i h2
      have h1 := Decidable.not_not.1 h1
      have h2 := Decidable.not_not.1 h2
      exact ⟨h1.1, h1.2, h2.1, h2.2.1⟩

theorem blocks_ok (c : CfgS) (he : cfgErr c = 0) (A : AW) : ACall Tryz.prog 94 [c.v] A (fun v A' => v = .int .i64 c.nb ∧ A = A') := by
  have h := blocks_call c A
  unfold blocksF at h
  rwa [if_pos he] at h

theorem head_call (t : Int) (A : AW) : ACall Tryz.prog 95 [.int .i64 0, .int .i64 t] A (fun u A' => ∃ x e : Int, u = .tuple #[.int .u64 x, .int .i64 e] ∧ A = A') := by
  refine acall_intro Tryz.func95 rfl (by kernel_rfl) fun hw => ?_
  by_cases h1 : t < -1
  · repeat' (first
  | (refine lwc fun R hR => ?_; simp [wrap_i64, wrap_u64, h1]; try simp (disch := omega) only [if_pos, if_neg, wrap_i64, wrap_u64])
  | (refine hR _ _ ?_; clear hR R) | (refine hK _ _ ?_; clear hK K) | refine lwn ?_ | refine lr ?_ | refine la ?_
  | refine wn fun K hK => ?_
  | simp only [wS]
  | refine wb ?_ | refine wr ?_ | refine wk ?_ | refine we ?_ | refine ws ?_ | refine wq ?_
  | (refine wc rfl (fun hc => ?_) (fun hc => ?_) <;> (try simp at hc) <;> (try omega))
  | (refine ib (fun hc => ?_) (fun hc => ?_) <;> (try omega) <;> (try simp (disch := omega) only [if_pos, if_neg])))
    all_goals exact ⟨_, rfl, _, _, rfl, rfl⟩
  by_cases h2 : 64 ≤ t
  · repeat' (first
  | (refine lwc fun R hR => ?_; simp [wrap_i64, wrap_u64, h1, h2]; try simp (disch := omega) only [if_pos, if_neg, wrap_i64, wrap_u64])
  | (refine hR _ _ ?_; clear hR R) | (refine hK _ _ ?_; clear hK K) | refine lwn ?_ | refine lr ?_ | refine la ?_
  | refine wn fun K hK => ?_
  | simp only [wS]
  | refine wb ?_ | refine wr ?_ | refine wk ?_ | refine we ?_ | refine ws ?_ | refine wq ?_
  | (refine wc rfl (fun hc => ?_) (fun hc => ?_) <;> (try simp at hc) <;> (try omega))
  | (refine ib (fun hc => ?_) (fun hc => ?_) <;> (try omega) <;> (try simp (disch := omega) only [if_pos, if_neg])))
    all_goals exact ⟨_, rfl, _, _, rfl, rfl⟩
  · repeat' (first
  | (refine lwc fun R hR => ?_; simp [wrap_i64, wrap_u64, h1, h2]; try simp (disch := omega) only [if_pos, if_neg, wrap_i64, wrap_u64])
  | (refine hR _ _ ?_; clear hR R) | (refine hK _ _ ?_; clear hK K) | refine lwn ?_ | refine lr ?_ | refine la ?_
  | refine wn fun K hK => ?_
  | simp only [wS]
  | refine wb ?_ | refine wr ?_ | refine wk ?_ | refine we ?_ | refine ws ?_ | refine wq ?_
  | (refine wc rfl (fun hc => ?_) (fun hc => ?_) <;> (try simp at hc) <;> (try omega))
  | (refine ib (fun hc => ?_) (fun hc => ?_) <;> (try omega) <;> (try simp (disch := omega) only [if_pos, if_neg])))
    all_goals exact ⟨_, rfl, _, _, rfl, rfl⟩

set_option maxHeartbeats 4000000 in
theorem lists_call (c : CfgS) (he : cfgErr c = 0) (nbn : Nat) (hnb : c.nb = nbn) (A : AW) :
    ACall Tryz.prog 57 [c.v] A (fun u A' => ∃ b1 b2 : Nat, u = .tuple #[.slice (some ⟨b1, 0, none⟩) 4 4, .slice (some ⟨b2, 0, none⟩) nbn nbn] ∧ A.le A' ∧ A'.Wf) := by
  refine acall_intro Tryz.func57 rfl (by kernel_rfl) fun hw => ?_
  obtain ⟨_, _, hcnt, hnb64⟩ := cfg_ok he
  have cB := fun B => blocks_ok c he B
  rw [hnb] at cB hnb64
  unfold CfgS.nb at hnb
  obtain ⟨wds, ords, bas, c0, c1, c2, c3, rds, wrs, als, fre, clk, stg⟩ := c
  simp only [cntOk] at hcnt hnb
  obtain ⟨n0, rfl⟩ : ∃ n : Nat, c0 = n := ⟨c0.toNat, by omega⟩
  obtain ⟨n1, rfl⟩ : ∃ n : Nat, c1 = n := ⟨c1.toNat, by omega⟩
  obtain ⟨n2, rfl⟩ : ∃ n : Nat, c2 = n := ⟨c2.toNat, by omega⟩
  obtain ⟨n3, rfl⟩ : ∃ n : Nat, c3 = n := ⟨c3.toNat, by omega⟩
  have hsum : n0 + n1 + n2 + n3 = nbn := by omega
  simp only [CfgS.v, CfgS.cells] at cB ⊢
  have z0 : 0 ≤ (nbn : Int) := by omega
  have z1 : (nbn : Int) ≤ 140737488355328 := by omega
  have z2 : (nbn : Int) * 8 ≤ 140737488355328 := by omega
  repeat' (first
  | (refine lwc fun R hR => ?_; simp [wrap_i64, wrap_u64, AW.row_get, astore, z0, z1, z2]; try simp (disch := omega) only [if_pos, if_neg, wrap_i64, wrap_u64])
  | (refine hR _ _ ?_; clear hR R) | (refine hK _ _ ?_; clear hK K) | refine lwn ?_ | refine lr ?_ | refine la ?_
  | refine wn fun K hK => ?_
  | simp only [wS]
  | (refine callK (cB _) ?_; rintro _ _ ⟨rfl, rfl⟩ _ _)
  | refine wb ?_ | refine wr ?_ | refine wk ?_ | refine we ?_ | refine ws ?_ | refine wq ?_
  | (refine wc rfl (fun hc => ?_) (fun hc => ?_) <;> (try simp at hc) <;> (try omega))
  | (refine ib (fun hc => ?_) (fun hc => ?_) <;> (try omega) <;> (try simp (disch := omega) only [if_pos, if_neg])))
  refine awp_gen (fun A1 => A.le A1 ∧ A1.Wf ∧ ∃ r1 r2 : List Value, A1.get (A.next + 1) = some (.cells r1 true 1) ∧ r1.length = 4 ∧ A1.get (A.next + 1 + 1) = some (.cells r2 true 1) ∧ r2.length = nbn) ?_ ?_
  · exact ⟨((AW.le.alloc A _).trans (AW.le.alloc _ _)).trans (AW.le.alloc _ _), ((hw.alloc _).alloc _).alloc _, [.int .u64 0, .int .u64 0, .int .u64 0, .int .u64 0], azeros [.int .u64 0] nbn, by simp [AW.get_alloc], rfl, by simp [AW.get_alloc], by simp [length_azeros]⟩
  rintro A1 ⟨hle1, hw1, r1, r2, hr1, hl1, hr2, hl2⟩
  have g : ∀ i : Nat, i < 4 → ∃ q f : Nat, f + q ≤ nbn ∧ (#[Value.int .i64 n0, .int .i64 n1, .int .i64 n2, .int .i64 n3])[i]? = some (.int .i64 q) ∧ f = [0, n0, n0 + n1, n0 + n1 + n2, n0 + n1 + n2 + n3].getD i 0 ∧ f + q = [0, n0, n0 + n1, n0 + n1 + n2, n0 + n1 + n2 + n3].getD (i + 1) 0 := by
    intro i hi
    have : i = 0 ∨ i = 1 ∨ i = 2 ∨ i = 3 := by omega
    rcases this with rfl | rfl | rfl | rfl
    · exact ⟨n0, 0, by omega, rfl, rfl, by simp⟩
    · exact ⟨n1, n0, by omega, rfl, rfl, by simp⟩
    · exact ⟨n2, n0 + n1, by omega, rfl, rfl, by simp⟩
    · exact ⟨n3, n0 + n1 + n2, by omega, rfl, rfl, by simp⟩
  refine awp_loop (fun k fr A' => ∃ (i : Nat) (r1 r2 : List Value), k = 4 - i ∧ i ≤ 4 ∧ fr 2 = .slice (some ⟨A.next + 1, 0, none⟩) 4 4 ∧ fr 3 = .slice (some ⟨A.next + 1 + 1, 0, none⟩) nbn nbn ∧ fr 4 = .int .i64 ([0, n0, n0 + n1, n0 + n1 + n2, n0 + n1 + n2 + n3].getD i 0 : Nat) ∧
    fr 14 = .agg #[.int .i64 n0, .int .i64 n1, .int .i64 n2, .int .i64 n3] ∧ fr 15 = .int .i64 i ∧ A.le A' ∧ A'.Wf ∧ A'.get (A.next + 1) = some (.cells r1 true 1) ∧ r1.length = 4 ∧ A'.get (A.next + 1 + 1) = some (.cells r2 true 1) ∧ r2.length = nbn) 4 ?_ ?_
  · exact ⟨0, r1, r2, rfl, by omega, rfl, rfl, rfl, rfl, rfl, hle1, hw1, hr1, hl1, hr2, hl2⟩
  clear hle1 hw1 hr1 hl1 hr2 hl2 r1 r2 A1
  rintro k fr A' ⟨i, r1, r2, rfl, hi, g2, g3, g4, g14, g15, hle1, hw1, hr1, hl1, hr2, hl2⟩
  by_cases hlt : i < 4
  · obtain ⟨q, f, hfq, hq, hf, hf2⟩ := g i hlt
    rw [← hf] at g4
    have hq2 : ([Value.int .i64 n0, .int .i64 n1, .int .i64 n2, .int .i64 n3])[i]'(by simpa using hlt) = .int .i64 q := by
      have h9 : ([Value.int .i64 n0, .int .i64 n1, .int .i64 n2, .int .i64 n3])[i]? = some (.int .i64 q) := by simpa using hq
      exact (List.getElem?_eq_some_iff.1 h9).2
    have hwi : IntKind.i64.wrap ((i : Int) + 1) = ((i + 1 : Nat) : Int) := wrap_i64 (by omega) (by omega)
    have hwf : IntKind.i64.wrap ((f : Int) + q) = ((f + q : Nat) : Int) := wrap_i64 (by omega) (by omega)
    have hwf1 : IntKind.i64.wrap (((f + q : Nat) : Int) - 1) = ((f + q : Nat) : Int) - 1 := wrap_i64 (by omega) (by omega)
    have hst : 4 - i = (4 - (i + 1)) + 1 := by omega
    have hi1 : i + 1 ≤ r1.length := by omega
    have hn1 : A.next + 1 < A'.next := hw1.lt hr1
    have hn2 : A.next + 1 + 1 < A'.next := hw1.lt hr2
    have m1 : ¬ A.next + 1 = A.next + 1 + 1 := by omega
    have m2 : ¬ A.next + 1 + 1 = A.next + 1 := by omega
    refine awp_seq ?_
    by_cases hq0 : 0 < q
    · repeat' (first
    | (refine lwc fun R hR => ?_; simp [wrap_i64, wrap_u64, g2, g3, g4, g14, g15, hlt, hq2, hq0, hwi, hwf, AW.row_get]; try simp (disch := omega) only [if_pos, if_neg, wrap_i64, wrap_u64])
    | (refine hR _ _ ?_; clear hR R) | (refine hK _ _ ?_; clear hK K) | refine lwn ?_ | refine lr ?_ | refine la ?_
    | refine wn fun K hK => ?_
    | simp only [wS]
    | refine wb ?_ | refine wr ?_ | refine wk ?_ | refine we ?_ | refine ws ?_ | refine wq ?_
    | (refine wc rfl (fun hc => ?_) (fun hc => ?_) <;> (try simp at hc) <;> (try omega))
    | (refine ib (fun hc => ?_) (fun hc => ?_) <;> (try omega) <;> (try simp (disch := omega) only [if_pos, if_neg])))
      refine (head_call _ _).mono ?_
      rintro u A2 ⟨x, e, rfl, rfl⟩
      first | refine ⟨AW.le.refl _, ?_⟩ | skip
      repeat' (first
      | (refine lwc fun R hR => ?_; simp [wrap_i64, wrap_u64, g2, g3, g4, g14, g15, hlt, hq2, hq0, hwi, hwf, hr1, hr2, hi1, m1, m2, AW.row_get, astore]; try simp (disch := omega) only [if_pos, if_neg, wrap_i64, wrap_u64])
      | (refine hR _ _ ?_; clear hR R) | (refine hK _ _ ?_; clear hK K) | refine lwn ?_ | refine lr ?_ | refine la ?_
      | refine wn fun K hK => ?_
      | simp only [wS]
      | refine wb ?_ | refine wr ?_ | refine wk ?_ | refine we ?_ | refine ws ?_ | refine wq ?_
      | (refine wc rfl (fun hc => ?_) (fun hc => ?_) <;> (try simp at hc) <;> (try omega))
      | (refine ib (fun hc => ?_) (fun hc => ?_) <;> (try omega) <;> (try simp (disch := omega) only [if_pos, if_neg])))
      refine awp_loop (fun k fr2 A2 => ∃ (b : Nat) (r1 r2 : List Value), k = nbn + 1 - b ∧ b ≤ f + q ∧ fr2 2 = .slice (some ⟨A.next + 1, 0, none⟩) 4 4 ∧ fr2 3 = .slice (some ⟨A.next + 1 + 1, 0, none⟩) nbn nbn ∧ fr2 4 = .int .i64 f ∧ fr2 6 = .int .i64 q ∧ fr2 8 = .int .i64 b ∧
        fr2 14 = .agg #[.int .i64 n0, .int .i64 n1, .int .i64 n2, .int .i64 n3] ∧ fr2 15 = .int .i64 i ∧ A.le A2 ∧ A2.Wf ∧ A2.get (A.next + 1) = some (.cells r1 true 1) ∧ r1.length = 4 ∧ A2.get (A.next + 1 + 1) = some (.cells r2 true 1) ∧ r2.length = nbn) (nbn + 1 - f) ?_ ?_
      · refine ⟨f, r1.set i (.int .u64 x), r2, rfl, by omega, ?_, ?_, ?_, ?_, ?_, ?_, ?_, hle1.set (by omega) _, hw1.set _ hn1, AW.set_get_same, by simpa using hl1, ?_, hl2⟩ <;> simp [g2, g3, g4, g14, g15, AW.get_set, m2, hr2]
      clear g2 g3 g4 g14 g15 hle1 hw1 hr1 hl1 hr2 hl2 hi1 hn1 hn2 r1 r2 A' x
      rintro k fr2 A' ⟨b, r1, r2, rfl, hbq, g2, g3, g4, g6, g8, g14, g15, hle1, hw1, hr1, hl1, hr2, hl2⟩
      have hn2 : A.next + 1 + 1 < A'.next := hw1.lt hr2
      by_cases hb : (b : Int) < (f : Int) + q - 1
      · have hwb : IntKind.i64.wrap ((b : Int) + 1) = ((b + 1 : Nat) : Int) := wrap_i64 (by omega) (by omega)
        have hb1 : b + 1 ≤ r2.length := by omega
        have hb2 : b < nbn := by omega
        have hst2 : nbn + 1 - b = (nbn + 1 - (b + 1)) + 1 := by omega
        refine awp_seq ?_
        repeat' (first
        | (refine lwc fun R hR => ?_; simp [wrap_i64, wrap_u64, g2, g3, g4, g6, g8, g14, g15, hwf, hwf1, hb, hwb, hr1, hr2, hb1, hb2, m1, m2, AW.row_get, astore]; try simp (disch := omega) only [if_pos, if_neg, wrap_i64, wrap_u64])
        | (refine hR _ _ ?_; clear hR R) | (refine hK _ _ ?_; clear hK K) | refine lwn ?_ | refine lr ?_ | refine la ?_
        | refine wn fun K hK => ?_
        | simp only [wS]
        | refine wb ?_ | refine wr ?_ | refine wk ?_ | refine we ?_ | refine ws ?_ | refine wq ?_
        | (refine wc rfl (fun hc => ?_) (fun hc => ?_) <;> (try simp at hc) <;> (try omega))
        | (refine ib (fun hc => ?_) (fun hc => ?_) <;> (try omega) <;> (try simp (disch := omega) only [if_pos, if_neg])))
        refine ⟨nbn + 1 - (b + 1), by omega, b + 1, r1, r2.set b _, rfl, by omega, ?_, ?_, ?_, ?_, ?_, ?_, ?_, hle1.set (by omega) _, hw1.set _ hn2, ?_, hl1, AW.set_get_same, by simpa using hl2⟩ <;> simp [g2, g3, g4, g6, g14, g15, AW.get_set, m1, hr1]
      · refine awp_seq ?_
        repeat' (first
        | (refine lwc fun R hR => ?_; simp [wrap_i64, wrap_u64, g2, g3, g4, g6, g8, g14, g15, hwf, hwf1, hwi, hb, AW.row_get]; try simp (disch := omega) only [if_pos, if_neg, wrap_i64, wrap_u64])
        | (refine hR _ _ ?_; clear hR R) | (refine hK _ _ ?_; clear hK K) | refine lwn ?_ | refine lr ?_ | refine la ?_
        | refine wn fun K hK => ?_
        | simp only [wS]
        | refine wb ?_ | refine wr ?_ | refine wk ?_ | refine we ?_ | refine ws ?_ | refine wq ?_
        | (refine wc rfl (fun hc => ?_) (fun hc => ?_) <;> (try simp at hc) <;> (try omega))
        | (refine ib (fun hc => ?_) (fun hc => ?_) <;> (try omega) <;> (try simp (disch := omega) only [if_pos, if_neg])))
        refine ⟨4 - (i + 1), by omega, i + 1, r1, r2, rfl, by omega, ?_, ?_, ?_, ?_, ?_, hle1, hw1, hr1, hl1, hr2, hl2⟩
        · simp [g2]
        · simp [g3]
        · rw [← hf2]; simp
        · simp [g14]
        · simp
    · repeat' (first
    | (refine lwc fun R hR => ?_; simp [wrap_i64, wrap_u64, g2, g3, g4, g14, g15, hlt, hq2, hq0, hwi, hwf, AW.row_get]; try simp (disch := omega) only [if_pos, if_neg, wrap_i64, wrap_u64])
    | (refine hR _ _ ?_; clear hR R) | (refine hK _ _ ?_; clear hK K) | refine lwn ?_ | refine lr ?_ | refine la ?_
    | refine wn fun K hK => ?_
    | simp only [wS]
    | refine wb ?_ | refine wr ?_ | refine wk ?_ | refine we ?_ | refine ws ?_ | refine wq ?_
    | (refine wc rfl (fun hc => ?_) (fun hc => ?_) <;> (try simp at hc) <;> (try omega))
    | (refine ib (fun hc => ?_) (fun hc => ?_) <;> (try omega) <;> (try simp (disch := omega) only [if_pos, if_neg])))
      refine (head_call _ _).mono ?_
      rintro u A2 ⟨x, e, rfl, rfl⟩
      first | refine ⟨AW.le.refl _, ?_⟩ | skip
      repeat' (first
      | (refine lwc fun R hR => ?_; simp [wrap_i64, wrap_u64, g2, g3, g4, g14, g15, hlt, hq2, hq0, hwi, hwf, hr1, hr2, hi1, m1, m2, AW.row_get, astore]; try simp (disch := omega) only [if_pos, if_neg, wrap_i64, wrap_u64])
      | (refine hR _ _ ?_; clear hR R) | (refine hK _ _ ?_; clear hK K) | refine lwn ?_ | refine lr ?_ | refine la ?_
      | refine wn fun K hK => ?_
      | simp only [wS]
      | refine wb ?_ | refine wr ?_ | refine wk ?_ | refine we ?_ | refine ws ?_ | refine wq ?_
      | (refine wc rfl (fun hc => ?_) (fun hc => ?_) <;> (try simp at hc) <;> (try omega))
      | (refine ib (fun hc => ?_) (fun hc => ?_) <;> (try omega) <;> (try simp (disch := omega) only [if_pos, if_neg])))
      refine awp_loop (fun k fr2 A2 => ∃ (b : Nat) (r1 r2 : List Value), k = nbn + 1 - b ∧ b ≤ f + q ∧ fr2 2 = .slice (some ⟨A.next + 1, 0, none⟩) 4 4 ∧ fr2 3 = .slice (some ⟨A.next + 1 + 1, 0, none⟩) nbn nbn ∧ fr2 4 = .int .i64 f ∧ fr2 6 = .int .i64 q ∧ fr2 8 = .int .i64 b ∧
        fr2 14 = .agg #[.int .i64 n0, .int .i64 n1, .int .i64 n2, .int .i64 n3] ∧ fr2 15 = .int .i64 i ∧ A.le A2 ∧ A2.Wf ∧ A2.get (A.next + 1) = some (.cells r1 true 1) ∧ r1.length = 4 ∧ A2.get (A.next + 1 + 1) = some (.cells r2 true 1) ∧ r2.length = nbn) (nbn + 1 - f) ?_ ?_
      · refine ⟨f, r1.set i (.int .u64 x), r2, rfl, by omega, ?_, ?_, ?_, ?_, ?_, ?_, ?_, hle1.set (by omega) _, hw1.set _ hn1, AW.set_get_same, by simpa using hl1, ?_, hl2⟩ <;> simp [g2, g3, g4, g14, g15, AW.get_set, m2, hr2]
      clear g2 g3 g4 g14 g15 hle1 hw1 hr1 hl1 hr2 hl2 hi1 hn1 hn2 r1 r2 A' x
      rintro k fr2 A' ⟨b, r1, r2, rfl, hbq, g2, g3, g4, g6, g8, g14, g15, hle1, hw1, hr1, hl1, hr2, hl2⟩
      have hn2 : A.next + 1 + 1 < A'.next := hw1.lt hr2
      by_cases hb : (b : Int) < (f : Int) + q - 1
      · have hwb : IntKind.i64.wrap ((b : Int) + 1) = ((b + 1 : Nat) : Int) := wrap_i64 (by omega) (by omega)
        have hb1 : b + 1 ≤ r2.length := by omega
        have hb2 : b < nbn := by omega
        have hst2 : nbn + 1 - b = (nbn + 1 - (b + 1)) + 1 := by omega
        refine awp_seq ?_
        repeat' (first
        | (refine lwc fun R hR => ?_; simp [wrap_i64, wrap_u64, g2, g3, g4, g6, g8, g14, g15, hwf, hwf1, hb, hwb, hr1, hr2, hb1, hb2, m1, m2, AW.row_get, astore]; try simp (disch := omega) only [if_pos, if_neg, wrap_i64, wrap_u64])
        | (refine hR _ _ ?_; clear hR R) | (refine hK _ _ ?_; clear hK K) | refine lwn ?_ | refine lr ?_ | refine la ?_
        | refine wn fun K hK => ?_
        | simp only [wS]
        | refine wb ?_ | refine wr ?_ | refine wk ?_ | refine we ?_ | refine ws ?_ | refine wq ?_
        | (refine wc rfl (fun hc => ?_) (fun hc => ?_) <;> (try simp at hc) <;> (try omega))
        | (refine ib (fun hc => ?_) (fun hc => ?_) <;> (try omega) <;> (try simp (disch := omega) only [if_pos, if_neg])))
        refine ⟨nbn + 1 - (b + 1), by omega, b + 1, r1, r2.set b _, rfl, by omega, ?_, ?_, ?_, ?_, ?_, ?_, ?_, hle1.set (by omega) _, hw1.set _ hn2, ?_, hl1, AW.set_get_same, by simpa using hl2⟩ <;> simp [g2, g3, g4, g6, g14, g15, AW.get_set, m1, hr1]
      · refine awp_seq ?_
        repeat' (first
        | (refine lwc fun R hR => ?_; simp [wrap_i64, wrap_u64, g2, g3, g4, g6, g8, g14, g15, hwf, hwf1, hwi, hb, AW.row_get]; try simp (disch := omega) only [if_pos, if_neg, wrap_i64, wrap_u64])
        | (refine hR _ _ ?_; clear hR R) | (refine hK _ _ ?_; clear hK K) | refine lwn ?_ | refine lr ?_ | refine la ?_
        | refine wn fun K hK => ?_
        | simp only [wS]
        | refine wb ?_ | refine wr ?_ | refine wk ?_ | refine we ?_ | refine ws ?_ | refine wq ?_
        | (refine wc rfl (fun hc => ?_) (fun hc => ?_) <;> (try simp at hc) <;> (try omega))
        | (refine ib (fun hc => ?_) (fun hc => ?_) <;> (try omega) <;> (try simp (disch := omega) only [if_pos, if_neg])))
        refine ⟨4 - (i + 1), by omega, i + 1, r1, r2, rfl, by omega, ?_, ?_, ?_, ?_, ?_, hle1, hw1, hr1, hl1, hr2, hl2⟩
        · simp [g2]
        · simp [g3]
        · rw [← hf2]; simp
        · simp [g14]
        · simp
  · have hil : i = 4 := by omega
    subst hil
    refine awp_seq ?_
    repeat' (first
    | (refine lwc fun R hR => ?_; simp [wrap_i64, wrap_u64, g2, g3, g4, g14, g15, AW.row_get]; try simp (disch := omega) only [if_pos, if_neg, wrap_i64, wrap_u64])
    | (refine hR _ _ ?_; clear hR R) | (refine hK _ _ ?_; clear hK K) | refine lwn ?_ | refine lr ?_ | refine la ?_
    | refine wn fun K hK => ?_
    | simp only [wS]
    | refine wb ?_ | refine wr ?_ | refine wk ?_ | refine we ?_ | refine ws ?_ | refine wq ?_
    | (refine wc rfl (fun hc => ?_) (fun hc => ?_) <;> (try simp at hc) <;> (try omega))
    | (refine ib (fun hc => ?_) (fun hc => ?_) <;> (try omega) <;> (try simp (disch := omega) only [if_pos, if_neg])))
    all_goals (refine ⟨_, by simp [ares, aresL, ares1, g2, g3], A.next + 1, A.next + 1 + 1, rfl, hle1, hw1⟩)
end Go.Stx
