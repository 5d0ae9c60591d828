/-
  The statement ThreadRefuses.
-/
import Derived.Test.YtcffnkgjmneaeaaGreatDoorThA
import Derived.Test.YtcffnkgjmneaeaaGreatDoorFbZc
namespace Go.Stx
open Go Go.Proofs
attribute [local irreducible] AWP LWalk ACall ARounds lops nops
set_option linter.unusedVariables false
set_option linter.unusedSimpArgs false
set_option linter.unusedSectionVars false
set_option maxRecDepth 20000
variable [Gl]

theorem progCheck_nil : (progCheck []).2 = 0 := by rfl
theorem progCheck_commit : (progCheck [⟨8, 0, 0, 0, 0⟩]).2 = 40 := by rfl

theorem thr_nil (c : CfgS) (hc : cfgErr c = 0) (id n : Int) : thrErr c id n [] = if n < 1 ∨ 16 < n ∨ id < 0 ∨ n ≤ id then 54 else 0 := by
  unfold thrErr
  rw [if_neg (by simpa using hc), progCheck_nil]
theorem thr_commit (c : CfgS) (hc : cfgErr c = 0) : thrErr c 0 1 [⟨8, 0, 0, 0, 0⟩] = 40 := by
  unfold thrErr
  rw [if_neg (by simpa using hc), if_neg (by omega), progCheck_commit]
theorem thr_cfg (c : CfgS) (id n : Int) (p : List InsV) (h : ¬ cfgErr c = 0) : thrErr c id n p = cfgErr c := by
  unfold thrErr
  rw [if_pos h]

set_option maxHeartbeats 16000000 in
theorem threadRefuses_law (hF : FOK) (hA : ∀ B, ACall Tryz.prog 6 [] B (fun u A' => u = .bool true ∧ B = A')) (c : CfgS) (id n : Int) (v : Value) (p : List InsV) (l0 l1 l2 l3 l4 : Int) (v0 : Int) (A : AW) (h : IsIns A v p) :
    ACall Tryz.prog 3 [c.v, .int .i64 id, .int .i64 n, v, .agg #[.int .i64 l0, .int .i64 l1, .int .i64 l2, .int .i64 l3, .int .i64 l4], .int .i64 v0] A (fun u A' => u = .bool true) := by
  refine acall_intro Tryz.func3 rfl (by kernel_rfl) fun hw => ?_
  obtain ⟨o, cc, rfl, _⟩ := h.form
  have cA := fun B => hA B
  have cR := fun B => refCfgCheck_call c B
  obtain ⟨c2, ⟨_, hc2⟩, cC⟩ := config2_call l0 l1 l2 l3 l4
  by_cases h70 : 70 < p.length
  · obtain ⟨wds, ords, bas, c0, c1, q2, c3, rds, wrs, als, fre, clk, stg⟩ := c
    simp only [CfgS.v, CfgS.cells]
    repeat' (first
    | (refine lwc fun R hR => ?_; simp [wrap_i64, wrap_u64, AW.row_get, astore, h70]; try simp (disch := omega) only [if_pos, if_neg, wrap_i64, wrap_u64])
    | (refine hR _ _ ?_; clear hR R) | (refine hK _ _ ?_; clear hK K) | refine lwn ?_ | refine lr ?_ | refine la ?_
    | refine wn fun K hK => ?_
    | simp only [wS]
    | (refine callK (cA _) ?_; rintro _ _ ⟨rfl, rfl⟩ _ _)
    | refine wb ?_ | refine wr ?_ | refine wk ?_ | refine we ?_ | refine ws ?_ | refine wq ?_
    | (refine wc rfl (fun hc => ?_) (fun hc => ?_) <;> (try simp at hc) <;> (try omega))
    | (refine ib (fun hc => ?_) (fun hc => ?_) <;> (try omega) <;> (try simp (disch := omega) only [if_pos, if_neg])))
    all_goals simp [AThen, APost, ares, aresL, ares1]
  obtain ⟨k1, hk1⟩ : ∃ k1, placeF v0 19 = k1 := ⟨_, rfl⟩
  obtain ⟨k2, hk2⟩ : ∃ k2, placeF (IntKind.i64.wrap (v0.tdiv 19)) 19 = k2 := ⟨_, rfl⟩
  have cP := fun B => place_call v0 19 B (by omega) (by omega)
  have cQ := fun B => place_call (IntKind.i64.wrap (v0.tdiv 19)) 19 B (by omega) (by omega)
  rw [hk1] at cP
  rw [hk2] at cQ
  obtain ⟨nn, hnn⟩ : ∃ nn, IntKind.i64.wrap (k1 - 1) = nn := ⟨_, rfl⟩
  obtain ⟨ii, hii⟩ : ∃ ii, IntKind.i64.wrap (k2 - 1) = ii := ⟨_, rfl⟩
  have f1 := fun O O' => threadNew_call hF c id n (.slice o p.length cc) p ((A.alloc O).alloc O') (h.le ((AW.le.alloc A O).trans (AW.le.alloc _ O')) hw) (by omega)
  obtain ⟨cs, hcs⟩ : ∃ cs, c.cells = cs := ⟨_, rfl⟩
  obtain ⟨cs2, hcs2⟩ : ∃ cs2, c2.cells = cs2 := ⟨_, rfl⟩
  have hv : c.v = .agg cs.toArray := by rw [← hcs]; rfl
  have hv2 : c2.v = .agg cs2.toArray := by rw [← hcs2]; rfl
  have hcs' := hcs
  have hcs2' := hcs2
  unfold CfgS.cells at hcs hcs2
  rw [hv] at f1 cR ⊢
  rw [hv2] at cC
  rw [← hcs] at f1 cR ⊢
  rw [← hcs2] at cC
  repeat' (first
  | (refine lwc fun R hR => ?_; simp [wrap_i64, wrap_u64, AW.row_get, astore, h70]; try simp (disch := omega) only [if_pos, if_neg, wrap_i64, wrap_u64])
  | (refine hR _ _ ?_; clear hR R) | (refine hK _ _ ?_; clear hK K) | refine lwn ?_ | refine lr ?_ | refine la ?_
  | refine wn fun K hK => ?_
  | simp only [wS]
  | refine wb ?_ | refine wr ?_ | refine wk ?_ | refine we ?_ | refine ws ?_ | refine wq ?_
  | (refine wc rfl (fun hc => ?_) (fun hc => ?_) <;> (try simp at hc) <;> (try omega))
  | (refine ib (fun hc => ?_) (fun hc => ?_) <;> (try omega) <;> (try simp (disch := omega) only [if_pos, if_neg])))
  refine (f1 _ _).mono ?_
  rintro u A2 ⟨w1, rfl, hz1, hn1, hle2, hw2⟩
  first | refine ⟨hle2, ?_⟩ | skip
  have hwA := (hw.alloc (.cells cs true 1)).alloc (.cells [.int .i64 l0, .int .i64 l1, .int .i64 l2, .int .i64 l3, .int .i64 l4] true 1)
  rw [← hcs] at hwA
  have hb0 := hle2.keep hwA (i := A.next) (o := .cells cs true 1) (by rw [← hcs]; simp [AW.get_alloc, show ¬ A.next = A.next + 1 by omega])
  have hb1 := hle2.keep hwA (i := A.next + 1) (o := .cells [.int .i64 l0, .int .i64 l1, .int .i64 l2, .int .i64 l3, .int .i64 l4] true 1) (by simp)
  rw [← hcs] at hb0
  have hlt2 := hw2.lt hb1
  repeat' (first
  | (refine lwc fun R hR => ?_; simp [wrap_i64, wrap_u64, hb0, hb1, AW.row_get, astore, hnn, hii]; try simp (disch := omega) only [if_pos, if_neg, wrap_i64, wrap_u64])
  | (refine hR _ _ ?_; clear hR R) | (refine hK _ _ ?_; clear hK K) | refine lwn ?_ | refine lr ?_ | refine la ?_
  | refine wn fun K hK => ?_
  | simp only [wS]
  | (refine callK (cR _) ?_; rintro _ _ ⟨rfl, rfl⟩ _ _)
  | (refine callK (cC _) ?_; rintro _ _ ⟨rfl, rfl⟩ _ _)
  | (refine callK (cP _) ?_; rintro _ _ ⟨rfl, rfl⟩ _ _)
  | (refine callK (cQ _) ?_; rintro _ _ ⟨rfl, rfl⟩ _ _)
  | refine wb ?_ | refine wr ?_ | refine wk ?_ | refine we ?_ | refine ws ?_ | refine wq ?_
  | (refine wc rfl (fun hc => ?_) (fun hc => ?_) <;> (try simp at hc) <;> (try omega))
  | (refine ib (fun hc => ?_) (fun hc => ?_) <;> (try omega) <;> (try simp (disch := omega) only [if_pos, if_neg])))
  have f2 := fun B => threadNew_call hF c2 ii nn (.slice none 0 0) [] B (.inl ⟨⟨none, rfl⟩, rfl, rfl⟩) (by simp)
  rw [hv2, ← hcs2] at f2
  refine (f2 _).mono ?_
  rintro u A4 ⟨w2, rfl, hz2, hn2, hle4, hw4⟩
  first | refine ⟨hle4, ?_⟩ | skip
  rw [thr_nil c2 hc2] at hz2 hn2 ⊢
  have hw24 : ∀ O O', ((A2.alloc O).set A2.next O').Wf := fun O O' => (hw2.alloc O).set _ (by simp)
  have hb2 := hle4.keep (hw24 _ _) (i := A2.next) (o := .cells cs2 true 1) (by rw [← hcs2]; exact AW.set_get_same)
  rw [← hcs2] at hb2
  have f3 := fun v B h => threadNew_call hF c2 0 1 v [⟨8, 0, 0, 0, 0⟩] B h (by simp)
  rw [hv2, ← hcs2] at f3
  by_cases a1 : nn < 1
  · rw [if_pos (.inl a1)] at hz2 hn2 ⊢
    obtain rfl := hn2 (by decide)
    repeat' (first
    | (refine lwc fun R hR => ?_; simp [wrap_i64, wrap_u64, hb2, AW.row_get, astore, a1]; try simp (disch := omega) only [if_pos, if_neg, wrap_i64, wrap_u64])
    | (refine hR _ _ ?_; clear hR R) | (refine hK _ _ ?_; clear hK K) | refine lwn ?_ | refine lr ?_ | refine la ?_
    | refine wn fun K hK => ?_
    | simp only [wS]
    | refine wb ?_ | refine wr ?_ | refine wk ?_ | refine we ?_ | refine ws ?_ | refine wq ?_
    | (refine wc rfl (fun hc => ?_) (fun hc => ?_) <;> (try simp at hc) <;> (try omega))
    | (refine ib (fun hc => ?_) (fun hc => ?_) <;> (try omega) <;> (try simp (disch := omega) only [if_pos, if_neg])))
    refine (f3 _ _ (.inr ⟨_, 1, _, true, 5, rfl, Nat.le_refl _, AW.alloc_get_new _ _, rfl, by simp, by simp [insCells]⟩)).mono ?_
    rintro u A6 ⟨w3, rfl, _, hn3, hle6, hw6⟩
    first | refine ⟨hle6, ?_⟩ | skip
    rw [thr_commit _ hc2] at hn3 ⊢
    obtain rfl := hn3 (by decide)
    by_cases z0 : cfgErr c = 0
    · by_cases z1 : thrErr c id n p = 0
      · obtain ⟨b1, rfl⟩ := hz1 z1
        repeat' (first
        | (refine lwc fun R hR => ?_; simp [wrap_i64, wrap_u64, AW.row_get, astore, z0, z1]; try simp (disch := omega) only [if_pos, if_neg, wrap_i64, wrap_u64])
        | (refine hR _ _ ?_; clear hR R) | (refine hK _ _ ?_; clear hK K) | refine lwn ?_ | refine lr ?_ | refine la ?_
        | refine wn fun K hK => ?_
        | simp only [wS]
        | (refine callK (cA _) ?_; rintro _ _ ⟨rfl, rfl⟩ _ _)
        | refine wb ?_ | refine wr ?_ | refine wk ?_ | refine we ?_ | refine ws ?_ | refine wq ?_
        | (refine wc rfl (fun hc => ?_) (fun hc => ?_) <;> (try simp at hc) <;> (try omega))
        | (refine ib (fun hc => ?_) (fun hc => ?_) <;> (try omega) <;> (try simp (disch := omega) only [if_pos, if_neg])))
        all_goals simp [AThen, APost, ares, aresL, ares1]
      · obtain rfl := hn1 z1
        repeat' (first
        | (refine lwc fun R hR => ?_; simp [wrap_i64, wrap_u64, AW.row_get, astore, z0, z1]; try simp (disch := omega) only [if_pos, if_neg, wrap_i64, wrap_u64])
        | (refine hR _ _ ?_; clear hR R) | (refine hK _ _ ?_; clear hK K) | refine lwn ?_ | refine lr ?_ | refine la ?_
        | refine wn fun K hK => ?_
        | simp only [wS]
        | (refine callK (cA _) ?_; rintro _ _ ⟨rfl, rfl⟩ _ _)
        | refine wb ?_ | refine wr ?_ | refine wk ?_ | refine we ?_ | refine ws ?_ | refine wq ?_
        | (refine wc rfl (fun hc => ?_) (fun hc => ?_) <;> (try simp at hc) <;> (try omega))
        | (refine ib (fun hc => ?_) (fun hc => ?_) <;> (try omega) <;> (try simp (disch := omega) only [if_pos, if_neg])))
        all_goals simp [AThen, APost, ares, aresL, ares1]
    · obtain rfl := hn1 (by rw [thr_cfg c id n p z0]; exact z0)
      have z1 := thr_cfg c id n p z0
      repeat' (first
      | (refine lwc fun R hR => ?_; simp [wrap_i64, wrap_u64, AW.row_get, astore, z0, z1]; try simp (disch := omega) only [if_pos, if_neg, wrap_i64, wrap_u64])
      | (refine hR _ _ ?_; clear hR R) | (refine hK _ _ ?_; clear hK K) | refine lwn ?_ | refine lr ?_ | refine la ?_
      | refine wn fun K hK => ?_
      | simp only [wS]
      | (refine callK (cA _) ?_; rintro _ _ ⟨rfl, rfl⟩ _ _)
      | refine wb ?_ | refine wr ?_ | refine wk ?_ | refine we ?_ | refine ws ?_ | refine wq ?_
      | (refine wc rfl (fun hc => ?_) (fun hc => ?_) <;> (try simp at hc) <;> (try omega))
      | (refine ib (fun hc => ?_) (fun hc => ?_) <;> (try omega) <;> (try simp (disch := omega) only [if_pos, if_neg])))
      all_goals simp [AThen, APost, ares, aresL, ares1]
  by_cases a2 : 16 < nn
  · rw [if_pos (.inr (.inl a2))] at hz2 hn2 ⊢
    obtain rfl := hn2 (by decide)
    repeat' (first
    | (refine lwc fun R hR => ?_; simp [wrap_i64, wrap_u64, hb2, AW.row_get, astore, a1, a2]; try simp (disch := omega) only [if_pos, if_neg, wrap_i64, wrap_u64])
    | (refine hR _ _ ?_; clear hR R) | (refine hK _ _ ?_; clear hK K) | refine lwn ?_ | refine lr ?_ | refine la ?_
    | refine wn fun K hK => ?_
    | simp only [wS]
    | refine wb ?_ | refine wr ?_ | refine wk ?_ | refine we ?_ | refine ws ?_ | refine wq ?_
    | (refine wc rfl (fun hc => ?_) (fun hc => ?_) <;> (try simp at hc) <;> (try omega))
    | (refine ib (fun hc => ?_) (fun hc => ?_) <;> (try omega) <;> (try simp (disch := omega) only [if_pos, if_neg])))
    refine (f3 _ _ (.inr ⟨_, 1, _, true, 5, rfl, Nat.le_refl _, AW.alloc_get_new _ _, rfl, by simp, by simp [insCells]⟩)).mono ?_
    rintro u A6 ⟨w3, rfl, _, hn3, hle6, hw6⟩
    first | refine ⟨hle6, ?_⟩ | skip
    rw [thr_commit _ hc2] at hn3 ⊢
    obtain rfl := hn3 (by decide)
    by_cases z0 : cfgErr c = 0
    · by_cases z1 : thrErr c id n p = 0
      · obtain ⟨b1, rfl⟩ := hz1 z1
        repeat' (first
        | (refine lwc fun R hR => ?_; simp [wrap_i64, wrap_u64, AW.row_get, astore, z0, z1]; try simp (disch := omega) only [if_pos, if_neg, wrap_i64, wrap_u64])
        | (refine hR _ _ ?_; clear hR R) | (refine hK _ _ ?_; clear hK K) | refine lwn ?_ | refine lr ?_ | refine la ?_
        | refine wn fun K hK => ?_
        | simp only [wS]
        | (refine callK (cA _) ?_; rintro _ _ ⟨rfl, rfl⟩ _ _)
        | refine wb ?_ | refine wr ?_ | refine wk ?_ | refine we ?_ | refine ws ?_ | refine wq ?_
        | (refine wc rfl (fun hc => ?_) (fun hc => ?_) <;> (try simp at hc) <;> (try omega))
        | (refine ib (fun hc => ?_) (fun hc => ?_) <;> (try omega) <;> (try simp (disch := omega) only [if_pos, if_neg])))
        all_goals simp [AThen, APost, ares, aresL, ares1]
      · obtain rfl := hn1 z1
        repeat' (first
        | (refine lwc fun R hR => ?_; simp [wrap_i64, wrap_u64, AW.row_get, astore, z0, z1]; try simp (disch := omega) only [if_pos, if_neg, wrap_i64, wrap_u64])
        | (refine hR _ _ ?_; clear hR R) | (refine hK _ _ ?_; clear hK K) | refine lwn ?_ | refine lr ?_ | refine la ?_
        | refine wn fun K hK => ?_
        | simp only [wS]
        | (refine callK (cA _) ?_; rintro _ _ ⟨rfl, rfl⟩ _ _)
        | refine wb ?_ | refine wr ?_ | refine wk ?_ | refine we ?_ | refine ws ?_ | refine wq ?_
        | (refine wc rfl (fun hc => ?_) (fun hc => ?_) <;> (try simp at hc) <;> (try omega))
        | (refine ib (fun hc => ?_) (fun hc => ?_) <;> (try omega) <;> (try simp (disch := omega) only [if_pos, if_neg])))
        all_goals simp [AThen, APost, ares, aresL, ares1]
    · obtain rfl := hn1 (by rw [thr_cfg c id n p z0]; exact z0)
      have z1 := thr_cfg c id n p z0
      repeat' (first
      | (refine lwc fun R hR => ?_; simp [wrap_i64, wrap_u64, AW.row_get, astore, z0, z1]; try simp (disch := omega) only [if_pos, if_neg, wrap_i64, wrap_u64])
      | (refine hR _ _ ?_; clear hR R) | (refine hK _ _ ?_; clear hK K) | refine lwn ?_ | refine lr ?_ | refine la ?_
      | refine wn fun K hK => ?_
      | simp only [wS]
      | (refine callK (cA _) ?_; rintro _ _ ⟨rfl, rfl⟩ _ _)
      | refine wb ?_ | refine wr ?_ | refine wk ?_ | refine we ?_ | refine ws ?_ | refine wq ?_
      | (refine wc rfl (fun hc => ?_) (fun hc => ?_) <;> (try simp at hc) <;> (try omega))
      | (refine ib (fun hc => ?_) (fun hc => ?_) <;> (try omega) <;> (try simp (disch := omega) only [if_pos, if_neg])))
      all_goals simp [AThen, APost, ares, aresL, ares1]
  by_cases a3 : ii < 0
  · rw [if_pos (.inr (.inr (.inl a3)))] at hz2 hn2 ⊢
    obtain rfl := hn2 (by decide)
    repeat' (first
    | (refine lwc fun R hR => ?_; simp [wrap_i64, wrap_u64, hb2, AW.row_get, astore, a1, a2, a3]; try simp (disch := omega) only [if_pos, if_neg, wrap_i64, wrap_u64])
    | (refine hR _ _ ?_; clear hR R) | (refine hK _ _ ?_; clear hK K) | refine lwn ?_ | refine lr ?_ | refine la ?_
    | refine wn fun K hK => ?_
    | simp only [wS]
    | refine wb ?_ | refine wr ?_ | refine wk ?_ | refine we ?_ | refine ws ?_ | refine wq ?_
    | (refine wc rfl (fun hc => ?_) (fun hc => ?_) <;> (try simp at hc) <;> (try omega))
    | (refine ib (fun hc => ?_) (fun hc => ?_) <;> (try omega) <;> (try simp (disch := omega) only [if_pos, if_neg])))
    refine (f3 _ _ (.inr ⟨_, 1, _, true, 5, rfl, Nat.le_refl _, AW.alloc_get_new _ _, rfl, by simp, by simp [insCells]⟩)).mono ?_
    rintro u A6 ⟨w3, rfl, _, hn3, hle6, hw6⟩
    first | refine ⟨hle6, ?_⟩ | skip
    rw [thr_commit _ hc2] at hn3 ⊢
    obtain rfl := hn3 (by decide)
    by_cases z0 : cfgErr c = 0
    · by_cases z1 : thrErr c id n p = 0
      · obtain ⟨b1, rfl⟩ := hz1 z1
        repeat' (first
        | (refine lwc fun R hR => ?_; simp [wrap_i64, wrap_u64, AW.row_get, astore, z0, z1]; try simp (disch := omega) only [if_pos, if_neg, wrap_i64, wrap_u64])
        | (refine hR _ _ ?_; clear hR R) | (refine hK _ _ ?_; clear hK K) | refine lwn ?_ | refine lr ?_ | refine la ?_
        | refine wn fun K hK => ?_
        | simp only [wS]
        | (refine callK (cA _) ?_; rintro _ _ ⟨rfl, rfl⟩ _ _)
        | refine wb ?_ | refine wr ?_ | refine wk ?_ | refine we ?_ | refine ws ?_ | refine wq ?_
        | (refine wc rfl (fun hc => ?_) (fun hc => ?_) <;> (try simp at hc) <;> (try omega))
        | (refine ib (fun hc => ?_) (fun hc => ?_) <;> (try omega) <;> (try simp (disch := omega) only [if_pos, if_neg])))
        all_goals simp [AThen, APost, ares, aresL, ares1]
      · obtain rfl := hn1 z1
        repeat' (first
        | (refine lwc fun R hR => ?_; simp [wrap_i64, wrap_u64, AW.row_get, astore, z0, z1]; try simp (disch := omega) only [if_pos, if_neg, wrap_i64, wrap_u64])
        | (refine hR _ _ ?_; clear hR R) | (refine hK _ _ ?_; clear hK K) | refine lwn ?_ | refine lr ?_ | refine la ?_
        | refine wn fun K hK => ?_
        | simp only [wS]
        | (refine callK (cA _) ?_; rintro _ _ ⟨rfl, rfl⟩ _ _)
        | refine wb ?_ | refine wr ?_ | refine wk ?_ | refine we ?_ | refine ws ?_ | refine wq ?_
        | (refine wc rfl (fun hc => ?_) (fun hc => ?_) <;> (try simp at hc) <;> (try omega))
        | (refine ib (fun hc => ?_) (fun hc => ?_) <;> (try omega) <;> (try simp (disch := omega) only [if_pos, if_neg])))
        all_goals simp [AThen, APost, ares, aresL, ares1]
    · obtain rfl := hn1 (by rw [thr_cfg c id n p z0]; exact z0)
      have z1 := thr_cfg c id n p z0
      repeat' (first
      | (refine lwc fun R hR => ?_; simp [wrap_i64, wrap_u64, AW.row_get, astore, z0, z1]; try simp (disch := omega) only [if_pos, if_neg, wrap_i64, wrap_u64])
      | (refine hR _ _ ?_; clear hR R) | (refine hK _ _ ?_; clear hK K) | refine lwn ?_ | refine lr ?_ | refine la ?_
      | refine wn fun K hK => ?_
      | simp only [wS]
      | (refine callK (cA _) ?_; rintro _ _ ⟨rfl, rfl⟩ _ _)
      | refine wb ?_ | refine wr ?_ | refine wk ?_ | refine we ?_ | refine ws ?_ | refine wq ?_
      | (refine wc rfl (fun hc => ?_) (fun hc => ?_) <;> (try simp at hc) <;> (try omega))
      | (refine ib (fun hc => ?_) (fun hc => ?_) <;> (try omega) <;> (try simp (disch := omega) only [if_pos, if_neg])))
      all_goals simp [AThen, APost, ares, aresL, ares1]
  by_cases a4 : nn ≤ ii
  · rw [if_pos (.inr (.inr (.inr a4)))] at hz2 hn2 ⊢
    obtain rfl := hn2 (by decide)
    repeat' (first
    | (refine lwc fun R hR => ?_; simp [wrap_i64, wrap_u64, hb2, AW.row_get, astore, a1, a2, a3, a4]; try simp (disch := omega) only [if_pos, if_neg, wrap_i64, wrap_u64])
    | (refine hR _ _ ?_; clear hR R) | (refine hK _ _ ?_; clear hK K) | refine lwn ?_ | refine lr ?_ | refine la ?_
    | refine wn fun K hK => ?_
    | simp only [wS]
    | refine wb ?_ | refine wr ?_ | refine wk ?_ | refine we ?_ | refine ws ?_ | refine wq ?_
    | (refine wc rfl (fun hc => ?_) (fun hc => ?_) <;> (try simp at hc) <;> (try omega))
    | (refine ib (fun hc => ?_) (fun hc => ?_) <;> (try omega) <;> (try simp (disch := omega) only [if_pos, if_neg])))
    refine (f3 _ _ (.inr ⟨_, 1, _, true, 5, rfl, Nat.le_refl _, AW.alloc_get_new _ _, rfl, by simp, by simp [insCells]⟩)).mono ?_
    rintro u A6 ⟨w3, rfl, _, hn3, hle6, hw6⟩
    first | refine ⟨hle6, ?_⟩ | skip
    rw [thr_commit _ hc2] at hn3 ⊢
    obtain rfl := hn3 (by decide)
    by_cases z0 : cfgErr c = 0
    · by_cases z1 : thrErr c id n p = 0
      · obtain ⟨b1, rfl⟩ := hz1 z1
        repeat' (first
        | (refine lwc fun R hR => ?_; simp [wrap_i64, wrap_u64, AW.row_get, astore, z0, z1]; try simp (disch := omega) only [if_pos, if_neg, wrap_i64, wrap_u64])
        | (refine hR _ _ ?_; clear hR R) | (refine hK _ _ ?_; clear hK K) | refine lwn ?_ | refine lr ?_ | refine la ?_
        | refine wn fun K hK => ?_
        | simp only [wS]
        | (refine callK (cA _) ?_; rintro _ _ ⟨rfl, rfl⟩ _ _)
        | refine wb ?_ | refine wr ?_ | refine wk ?_ | refine we ?_ | refine ws ?_ | refine wq ?_
        | (refine wc rfl (fun hc => ?_) (fun hc => ?_) <;> (try simp at hc) <;> (try omega))
        | (refine ib (fun hc => ?_) (fun hc => ?_) <;> (try omega) <;> (try simp (disch := omega) only [if_pos, if_neg])))
        all_goals simp [AThen, APost, ares, aresL, ares1]
      · obtain rfl := hn1 z1
        repeat' (first
        | (refine lwc fun R hR => ?_; simp [wrap_i64, wrap_u64, AW.row_get, astore, z0, z1]; try simp (disch := omega) only [if_pos, if_neg, wrap_i64, wrap_u64])
        | (refine hR _ _ ?_; clear hR R) | (refine hK _ _ ?_; clear hK K) | refine lwn ?_ | refine lr ?_ | refine la ?_
        | refine wn fun K hK => ?_
        | simp only [wS]
        | (refine callK (cA _) ?_; rintro _ _ ⟨rfl, rfl⟩ _ _)
        | refine wb ?_ | refine wr ?_ | refine wk ?_ | refine we ?_ | refine ws ?_ | refine wq ?_
        | (refine wc rfl (fun hc => ?_) (fun hc => ?_) <;> (try simp at hc) <;> (try omega))
        | (refine ib (fun hc => ?_) (fun hc => ?_) <;> (try omega) <;> (try simp (disch := omega) only [if_pos, if_neg])))
        all_goals simp [AThen, APost, ares, aresL, ares1]
    · obtain rfl := hn1 (by rw [thr_cfg c id n p z0]; exact z0)
      have z1 := thr_cfg c id n p z0
      repeat' (first
      | (refine lwc fun R hR => ?_; simp [wrap_i64, wrap_u64, AW.row_get, astore, z0, z1]; try simp (disch := omega) only [if_pos, if_neg, wrap_i64, wrap_u64])
      | (refine hR _ _ ?_; clear hR R) | (refine hK _ _ ?_; clear hK K) | refine lwn ?_ | refine lr ?_ | refine la ?_
      | refine wn fun K hK => ?_
      | simp only [wS]
      | (refine callK (cA _) ?_; rintro _ _ ⟨rfl, rfl⟩ _ _)
      | refine wb ?_ | refine wr ?_ | refine wk ?_ | refine we ?_ | refine ws ?_ | refine wq ?_
      | (refine wc rfl (fun hc => ?_) (fun hc => ?_) <;> (try simp at hc) <;> (try omega))
      | (refine ib (fun hc => ?_) (fun hc => ?_) <;> (try omega) <;> (try simp (disch := omega) only [if_pos, if_neg])))
      all_goals simp [AThen, APost, ares, aresL, ares1]
  rw [if_neg (by omega)] at hz2 hn2 ⊢
  obtain ⟨b2, rfl⟩ := hz2 rfl
  repeat' (first
  | (refine lwc fun R hR => ?_; simp [wrap_i64, wrap_u64, hb2, AW.row_get, astore, a1, a2, a3, a4]; try simp (disch := omega) only [if_pos, if_neg, wrap_i64, wrap_u64])
  | (refine hR _ _ ?_; clear hR R) | (refine hK _ _ ?_; clear hK K) | refine lwn ?_ | refine lr ?_ | refine la ?_
  | refine wn fun K hK => ?_
  | simp only [wS]
  | refine wb ?_ | refine wr ?_ | refine wk ?_ | refine we ?_ | refine ws ?_ | refine wq ?_
  | (refine wc rfl (fun hc => ?_) (fun hc => ?_) <;> (try simp at hc) <;> (try omega))
  | (refine ib (fun hc => ?_) (fun hc => ?_) <;> (try omega) <;> (try simp (disch := omega) only [if_pos, if_neg])))
  refine (f3 _ _ (.inr ⟨_, 1, _, true, 5, rfl, Nat.le_refl _, AW.alloc_get_new _ _, rfl, by simp, by simp [insCells]⟩)).mono ?_
  rintro u A6 ⟨w3, rfl, _, hn3, hle6, hw6⟩
  first | refine ⟨hle6, ?_⟩ | skip
  rw [thr_commit _ hc2] at hn3 ⊢
  obtain rfl := hn3 (by decide)
  by_cases z0 : cfgErr c = 0
  · by_cases z1 : thrErr c id n p = 0
    · obtain ⟨b1, rfl⟩ := hz1 z1
      repeat' (first
      | (refine lwc fun R hR => ?_; simp [wrap_i64, wrap_u64, AW.row_get, astore, z0, z1]; try simp (disch := omega) only [if_pos, if_neg, wrap_i64, wrap_u64])
      | (refine hR _ _ ?_; clear hR R) | (refine hK _ _ ?_; clear hK K) | refine lwn ?_ | refine lr ?_ | refine la ?_
      | refine wn fun K hK => ?_
      | simp only [wS]
      | (refine callK (cA _) ?_; rintro _ _ ⟨rfl, rfl⟩ _ _)
      | refine wb ?_ | refine wr ?_ | refine wk ?_ | refine we ?_ | refine ws ?_ | refine wq ?_
      | (refine wc rfl (fun hc => ?_) (fun hc => ?_) <;> (try simp at hc) <;> (try omega))
      | (refine ib (fun hc => ?_) (fun hc => ?_) <;> (try omega) <;> (try simp (disch := omega) only [if_pos, if_neg])))
      all_goals simp [AThen, APost, ares, aresL, ares1]
    · obtain rfl := hn1 z1
      repeat' (first
      | (refine lwc fun R hR => ?_; simp [wrap_i64, wrap_u64, AW.row_get, astore, z0, z1]; try simp (disch := omega) only [if_pos, if_neg, wrap_i64, wrap_u64])
      | (refine hR _ _ ?_; clear hR R) | (refine hK _ _ ?_; clear hK K) | refine lwn ?_ | refine lr ?_ | refine la ?_
      | refine wn fun K hK => ?_
      | simp only [wS]
      | (refine callK (cA _) ?_; rintro _ _ ⟨rfl, rfl⟩ _ _)
      | refine wb ?_ | refine wr ?_ | refine wk ?_ | refine we ?_ | refine ws ?_ | refine wq ?_
      | (refine wc rfl (fun hc => ?_) (fun hc => ?_) <;> (try simp at hc) <;> (try omega))
      | (refine ib (fun hc => ?_) (fun hc => ?_) <;> (try omega) <;> (try simp (disch := omega) only [if_pos, if_neg])))
      all_goals simp [AThen, APost, ares, aresL, ares1]
  · obtain rfl := hn1 (by rw [thr_cfg c id n p z0]; exact z0)
    have z1 := thr_cfg c id n p z0
    repeat' (first
    | (refine lwc fun R hR => ?_; simp [wrap_i64, wrap_u64, AW.row_get, astore, z0, z1]; try simp (disch := omega) only [if_pos, if_neg, wrap_i64, wrap_u64])
    | (refine hR _ _ ?_; clear hR R) | (refine hK _ _ ?_; clear hK K) | refine lwn ?_ | refine lr ?_ | refine la ?_
    | refine wn fun K hK => ?_
    | simp only [wS]
    | (refine callK (cA _) ?_; rintro _ _ ⟨rfl, rfl⟩ _ _)
    | refine wb ?_ | refine wr ?_ | refine wk ?_ | refine we ?_ | refine ws ?_ | refine wq ?_
    | (refine wc rfl (fun hc => ?_) (fun hc => ?_) <;> (try simp at hc) <;> (try omega))
    | (refine ib (fun hc => ?_) (fun hc => ?_) <;> (try omega) <;> (try simp (disch := omega) only [if_pos, if_neg])))
    all_goals simp [AThen, APost, ares, aresL, ares1]
end Go.Stx
