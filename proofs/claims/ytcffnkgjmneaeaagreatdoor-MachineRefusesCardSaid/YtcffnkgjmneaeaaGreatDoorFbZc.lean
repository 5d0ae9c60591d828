/-
  Small configurations made from any numbers.
-/
import Derived.Test.YtcffnkgjmneaeaaGreatDoorFbQ
namespace Go.Stx
open Go Go.Proofs
def oFbZc_0 : List (Nat × Nat) := [(0, 0), (1, 0), (2, 0), (3, 0), (4, 0), (5, 0), (6, 0), (7, 0), (8, 0), (9, 2), (10, 0)]
attribute [local irreducible] AWP LWalk ACall ARounds lops nops
set_option linter.unusedVariables false
set_option linter.unusedSimpArgs false
set_option linter.unusedSectionVars false
set_option maxRecDepth 20000
variable [Gl]

def placeF (a n : Int) : Int := IntKind.u64.wrap a % n

theorem u64_wrap_range (a : Int) : 0 ≤ IntKind.u64.wrap a ∧ IntKind.u64.wrap a < 18446744073709551616 := by
  simp only [IntKind.wrap, IntKind.bits, IntKind.signed, Bool.false_and, Bool.false_eq_true, if_false]
  omega

theorem placeF_range (a n : Int) (hn : 0 < n) : 0 ≤ placeF a n ∧ placeF a n < n := ⟨Int.emod_nonneg _ (by omega), Int.emod_lt_of_pos _ hn⟩

theorem place_call (a n : Int) (A : AW) (hn : 0 < n) (hn2 : n ≤ 9223372036854775807) :
    ACall Tryz.prog 10 [.int .i64 a, .int .i64 n] A (fun v A' => v = .int .i64 (placeF a n) ∧ A = A') := by
  refine acall_intro Tryz.func10 rfl (by kernel_rfl) fun hw => ?_
  have hw1 : IntKind.u64.wrap n = n := wrap_u64 (by omega) (by omega)
  have hne : n ≠ 0 := by omega
  obtain ⟨h1, h2⟩ := u64_wrap_range a
  obtain ⟨h3, h4⟩ := placeF_range a n hn
  have hr : (IntKind.u64.wrap a).tmod n = placeF a n := Int.tmod_eq_emod_of_nonneg h1
  have hw2 : IntKind.i64.wrap (placeF a n) = placeF a n := wrap_i64 (by omega) (by omega)
  repeat' (first
  | (refine lwc fun R hR => ?_; simp [wrap_i64, wrap_u64, hw1, hne, hr, hw2]; try simp (disch := omega) only [if_pos, if_neg, wrap_i64, wrap_u64])
  | (refine hR _ _ ?_; clear hR R) | (refine hK _ _ ?_; clear hK K) | refine lwn ?_ | refine lr ?_ | refine la ?_
  | refine wn fun K hK => ?_
  | simp only [wS]
  | refine wb ?_ | refine wr ?_ | refine wk ?_ | refine we ?_ | refine ws ?_ | refine wq ?_
  | (refine wc rfl (fun hc => ?_) (fun hc => ?_) <;> (try simp at hc) <;> (try omega))
  | (refine ib (fun hc => ?_) (fun hc => ?_) <;> (try omega) <;> (try simp (disch := omega) only [if_pos, if_neg])))
  simp

def madeC (p0 p1 p2 p3 p4 p5 ck n0 n1 : Int) : CfgS := ⟨4 + p0, 1 + p1, 2, n0, n1, 0, 0, 1 + p2, 1 + p3, p4, p5, ck, false⟩
set_option maxRecDepth 20000 in
set_option maxHeartbeats 4000000 in
theorem config2_call (l0 l1 l2 l3 l4 : Int) : ∃ c : CfgS, ((4 ≤ c.words ∧ c.words ≤ 12) ∧ cfgErr c = 0) ∧ ∀ A, ACall Tryz.prog 9 [.int .i64 l0, .int .i64 l1, .int .i64 l2, .int .i64 l3, .int .i64 l4] A (fun v A' => v = c.v ∧ A = A') := by
  obtain ⟨p0, hp0⟩ : ∃ p0, placeF l0 9 = p0 := ⟨_, rfl⟩
  have qp0 := placeF_range l0 9 (by omega)
  have kp0 := fun A => place_call l0 9 A (by omega) (by omega)
  rw [hp0] at qp0 kp0
  obtain ⟨p1, hp1⟩ : ∃ p1, placeF l1 8 = p1 := ⟨_, rfl⟩
  have qp1 := placeF_range l1 8 (by omega)
  have kp1 := fun A => place_call l1 8 A (by omega) (by omega)
  rw [hp1] at qp1 kp1
  obtain ⟨p2, hp2⟩ : ∃ p2, placeF l2 6 = p2 := ⟨_, rfl⟩
  have qp2 := placeF_range l2 6 (by omega)
  have kp2 := fun A => place_call l2 6 A (by omega) (by omega)
  rw [hp2] at qp2 kp2
  obtain ⟨p3, hp3⟩ : ∃ p3, placeF (IntKind.i64.wrap (l2.tdiv 7)) 8 = p3 := ⟨_, rfl⟩
  have qp3 := placeF_range (IntKind.i64.wrap (l2.tdiv 7)) 8 (by omega)
  have kp3 := fun A => place_call (IntKind.i64.wrap (l2.tdiv 7)) 8 A (by omega) (by omega)
  rw [hp3] at qp3 kp3
  obtain ⟨p4, hp4⟩ : ∃ p4, placeF l3 3 = p4 := ⟨_, rfl⟩
  have qp4 := placeF_range l3 3 (by omega)
  have kp4 := fun A => place_call l3 3 A (by omega) (by omega)
  rw [hp4] at qp4 kp4
  obtain ⟨p5, hp5⟩ : ∃ p5, placeF (IntKind.i64.wrap (l3.tdiv 3)) 3 = p5 := ⟨_, rfl⟩
  have qp5 := placeF_range (IntKind.i64.wrap (l3.tdiv 3)) 3 (by omega)
  have kp5 := fun A => place_call (IntKind.i64.wrap (l3.tdiv 3)) 3 A (by omega) (by omega)
  rw [hp5] at qp5 kp5
  obtain ⟨p6, hp6⟩ : ∃ p6, placeF l4 5 = p6 := ⟨_, rfl⟩
  have qp6 := placeF_range l4 5 (by omega)
  have kp6 := fun A => place_call l4 5 A (by omega) (by omega)
  rw [hp6] at qp6 kp6
  obtain ⟨p7, hp7⟩ : ∃ p7, placeF (IntKind.i64.wrap (l4.tdiv 5)) 4 = p7 := ⟨_, rfl⟩
  have qp7 := placeF_range (IntKind.i64.wrap (l4.tdiv 5)) 4 (by omega)
  have kp7 := fun A => place_call (IntKind.i64.wrap (l4.tdiv 5)) 4 A (by omega) (by omega)
  rw [hp7] at qp7 kp7
  obtain ⟨p8, hp8⟩ : ∃ p8, placeF (IntKind.i64.wrap (l3.tdiv 9)) (4 + p0 - 2 + 1) = p8 := ⟨_, rfl⟩
  have qp8 := placeF_range (IntKind.i64.wrap (l3.tdiv 9)) (4 + p0 - 2 + 1) (by omega)
  have kp8 := fun A => place_call (IntKind.i64.wrap (l3.tdiv 9)) (4 + p0 - 2 + 1) A (by omega) (by omega)
  rw [hp8] at qp8 kp8
  obtain ⟨n0, hn0⟩ : ∃ n0, (if 2 < p8 then 2 else p8) = n0 := ⟨_, rfl⟩
  have hn0' : 0 ≤ n0 ∧ n0 ≤ 2 ∧ n0 ≤ 4 + p0 - 2 := by
    rw [← hn0]
    split <;> omega
  obtain ⟨m1, hm1⟩ : ∃ m1, (4 + p0 - 2 - n0).fdiv 2 = m1 := ⟨_, rfl⟩
  have hm1' : 0 ≤ m1 ∧ m1 * 2 ≤ 4 + p0 - 2 - n0 ∧ m1 ≤ 20 := by
    have h9 : (4 + p0 - 2 - n0).fdiv 2 = (4 + p0 - 2 - n0) / 2 := Int.fdiv_eq_ediv_of_nonneg _ (by omega)
    rw [h9] at hm1
    omega
  have hmw : IntKind.i64.wrap (m1 + 1) = m1 + 1 := wrap_i64 (by omega) (by omega)
  obtain ⟨p10, hp10⟩ : ∃ p10, placeF (IntKind.i64.wrap (l3.tdiv 29)) (m1 + 1) = p10 := ⟨_, rfl⟩
  have qp10 := placeF_range (IntKind.i64.wrap (l3.tdiv 29)) (m1 + 1) (by omega)
  have kp10 := fun A => place_call (IntKind.i64.wrap (l3.tdiv 29)) (m1 + 1) A (by omega) (by omega)
  rw [hp10] at qp10 kp10
  obtain ⟨n1, hn1⟩ : ∃ n1, (if 2 < p10 then 2 else p10) = n1 := ⟨_, rfl⟩
  have hn1' : 0 ≤ n1 ∧ n1 ≤ 2 ∧ n1 ≤ m1 := by
    rw [← hn1]
    split <;> omega
  obtain ⟨ck, hck⟩ : ∃ ck, (if p6 = 0 then p7 else 50) = ck := ⟨_, rfl⟩
  have hck' : 0 ≤ ck ∧ ck ≤ 50 := by
    rw [← hck]
    split <;> omega
  have key : ∀ A : AW, A.Wf → ACall Tryz.prog 9 [.int .i64 l0, .int .i64 l1, .int .i64 l2, .int .i64 l3, .int .i64 l4] A (fun v A' => v = (madeC p0 p1 p2 p3 p4 p5 ck n0 n1).v ∧ A.le A') := by
    intro A hw
    refine acall_intro Tryz.func9 rfl (by kernel_rfl) fun _ => ?_
    by_cases h : p6 = 0
    · rw [if_pos h] at hck
      repeat' (first
      | (refine lwc fun R hR => ?_; simp [wrap_i64, wrap_u64, h, hn0, hn1, hm1, hmw, pw1, AW.row_get, astore]; try simp (disch := omega) only [if_pos, if_neg, wrap_i64, wrap_u64])
      | (refine hR _ _ ?_; clear hR R) | (refine hK _ _ ?_; clear hK K) | refine lwn ?_ | refine lr ?_ | refine la ?_
      | refine wn fun K hK => ?_
      | simp only [wS, oFbZc_0]
      | refine wl Tryz.mx oFbZc_0 (by decide +kernel) fun K hK => ?_
      | (refine callK (kp0 _) ?_; rintro _ _ ⟨rfl, rfl⟩ _ _)
      | (refine callK (kp1 _) ?_; rintro _ _ ⟨rfl, rfl⟩ _ _)
      | (refine callK (kp2 _) ?_; rintro _ _ ⟨rfl, rfl⟩ _ _)
      | (refine callK (kp3 _) ?_; rintro _ _ ⟨rfl, rfl⟩ _ _)
      | (refine callK (kp4 _) ?_; rintro _ _ ⟨rfl, rfl⟩ _ _)
      | (refine callK (kp5 _) ?_; rintro _ _ ⟨rfl, rfl⟩ _ _)
      | (refine callK (kp6 _) ?_; rintro _ _ ⟨rfl, rfl⟩ _ _)
      | (refine callK (kp7 _) ?_; rintro _ _ ⟨rfl, rfl⟩ _ _)
      | (refine callK (kp8 _) ?_; rintro _ _ ⟨rfl, rfl⟩ _ _)
      | refine wb ?_ | refine wr ?_ | refine wk ?_ | refine we ?_ | refine ws ?_ | refine wq ?_
      | (refine wc rfl (fun hc => ?_) (fun hc => ?_) <;> (try simp at hc) <;> (try omega))
      | (refine ib (fun hc => ?_) (fun hc => ?_) <;> (try omega) <;> (try simp (disch := omega) only [if_pos, if_neg])))
      refine awp_rounds 3 ?_
      repeat' (first
      | (refine lwc fun R hR => ?_; simp [wrap_i64, wrap_u64, h, hn0, hn1, hm1, hmw, pw1, AW.row_get, astore]; try simp (disch := omega) only [if_pos, if_neg, wrap_i64, wrap_u64])
      | (refine hR _ _ ?_; clear hR R) | (refine hK _ _ ?_; clear hK K) | refine lwn ?_ | refine lr ?_ | refine la ?_
      | refine wn fun K hK => ?_
      | simp only [wS, oFbZc_0]
      | refine wl Tryz.mx oFbZc_0 (by decide +kernel) fun K hK => ?_
      | (refine callK (kp8 _) ?_; rintro _ _ ⟨rfl, rfl⟩ _ _)
      | (refine callK (kp10 _) ?_; rintro _ _ ⟨rfl, rfl⟩ _ _)
      | refine wb ?_ | refine wr ?_ | refine wk ?_ | refine we ?_ | refine ws ?_ | refine wq ?_
      | (refine wc rfl (fun hc => ?_) (fun hc => ?_) <;> (try simp at hc) <;> (try omega))
      | (refine ib (fun hc => ?_) (fun hc => ?_) <;> (try omega) <;> (try simp (disch := omega) only [if_pos, if_neg])))
      refine ⟨_, by simp [AW.row_get]; rfl, by simp [madeC, CfgS.v, CfgS.cells, hn0, hn1, hck, AW.row_get], ?_⟩
      repeat' (first | exact AW.le.refl _ | refine AW.le.set ?_ (by simp <;> omega) _ | refine AW.le.trans ?_ (AW.le.alloc _ _))
    · rw [if_neg h] at hck
      repeat' (first
      | (refine lwc fun R hR => ?_; simp [wrap_i64, wrap_u64, h, hn0, hn1, hm1, hmw, pw1, AW.row_get, astore]; try simp (disch := omega) only [if_pos, if_neg, wrap_i64, wrap_u64])
      | (refine hR _ _ ?_; clear hR R) | (refine hK _ _ ?_; clear hK K) | refine lwn ?_ | refine lr ?_ | refine la ?_
      | refine wn fun K hK => ?_
      | simp only [wS, oFbZc_0]
      | refine wl Tryz.mx oFbZc_0 (by decide +kernel) fun K hK => ?_
      | (refine callK (kp0 _) ?_; rintro _ _ ⟨rfl, rfl⟩ _ _)
      | (refine callK (kp1 _) ?_; rintro _ _ ⟨rfl, rfl⟩ _ _)
      | (refine callK (kp2 _) ?_; rintro _ _ ⟨rfl, rfl⟩ _ _)
      | (refine callK (kp3 _) ?_; rintro _ _ ⟨rfl, rfl⟩ _ _)
      | (refine callK (kp4 _) ?_; rintro _ _ ⟨rfl, rfl⟩ _ _)
      | (refine callK (kp5 _) ?_; rintro _ _ ⟨rfl, rfl⟩ _ _)
      | (refine callK (kp6 _) ?_; rintro _ _ ⟨rfl, rfl⟩ _ _)
      | (refine callK (kp7 _) ?_; rintro _ _ ⟨rfl, rfl⟩ _ _)
      | (refine callK (kp8 _) ?_; rintro _ _ ⟨rfl, rfl⟩ _ _)
      | refine wb ?_ | refine wr ?_ | refine wk ?_ | refine we ?_ | refine ws ?_ | refine wq ?_
      | (refine wc rfl (fun hc => ?_) (fun hc => ?_) <;> (try simp at hc) <;> (try omega))
      | (refine ib (fun hc => ?_) (fun hc => ?_) <;> (try omega) <;> (try simp (disch := omega) only [if_pos, if_neg])))
      refine awp_rounds 3 ?_
      repeat' (first
      | (refine lwc fun R hR => ?_; simp [wrap_i64, wrap_u64, h, hn0, hn1, hm1, hmw, pw1, AW.row_get, astore]; try simp (disch := omega) only [if_pos, if_neg, wrap_i64, wrap_u64])
      | (refine hR _ _ ?_; clear hR R) | (refine hK _ _ ?_; clear hK K) | refine lwn ?_ | refine lr ?_ | refine la ?_
      | refine wn fun K hK => ?_
      | simp only [wS, oFbZc_0]
      | refine wl Tryz.mx oFbZc_0 (by decide +kernel) fun K hK => ?_
      | (refine callK (kp8 _) ?_; rintro _ _ ⟨rfl, rfl⟩ _ _)
      | (refine callK (kp10 _) ?_; rintro _ _ ⟨rfl, rfl⟩ _ _)
      | refine wb ?_ | refine wr ?_ | refine wk ?_ | refine we ?_ | refine ws ?_ | refine wq ?_
      | (refine wc rfl (fun hc => ?_) (fun hc => ?_) <;> (try simp at hc) <;> (try omega))
      | (refine ib (fun hc => ?_) (fun hc => ?_) <;> (try omega) <;> (try simp (disch := omega) only [if_pos, if_neg])))
      refine ⟨_, by simp [AW.row_get]; rfl, by simp [madeC, CfgS.v, CfgS.cells, hn0, hn1, hck, AW.row_get], ?_⟩
      repeat' (first | exact AW.le.refl _ | refine AW.le.set ?_ (by simp <;> omega) _ | refine AW.le.trans ?_ (AW.le.alloc _ _))
  refine ⟨madeC p0 p1 p2 p3 p4 p5 ck n0 n1, ?_, fun A => ACall.gc0 (V := (madeC p0 p1 p2 p3 p4 p5 ck n0 n1).v) (VBelow.agg (by simp [madeC, CfgS.cells])) (fun hw => key A hw) (by kernel_rfl)⟩
  refine ⟨by simp only [madeC]; omega, ?_⟩
  unfold cfgErr cntOk CfgS.nb CfgS.hw madeC
  simp only
  rw [if_neg (by omega), if_neg (by omega), if_neg (by omega), if_neg (by omega)]

theorem config_call (l0 l1 l2 l3 l4 : Int) : ∃ c : CfgS, (4 ≤ c.words ∧ c.words ≤ 12) ∧ ∀ A, ACall Tryz.prog 9 [.int .i64 l0, .int .i64 l1, .int .i64 l2, .int .i64 l3, .int .i64 l4] A (fun v A' => v = c.v ∧ A = A') := by
  obtain ⟨c, h, k⟩ := config2_call l0 l1 l2 l3 l4
  exact ⟨c, h.1, k⟩

end Go.Stx
