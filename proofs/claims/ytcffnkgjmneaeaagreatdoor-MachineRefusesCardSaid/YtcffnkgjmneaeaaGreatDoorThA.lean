/-
  A thread is made: what New answers, whatever it is given.
-/
import Derived.Test.YtcffnkgjmneaeaaGreatDoorFbL
import Derived.Test.YtcffnkgjmneaeaaGreatDoorFbQ
import Derived.Test.YtcffnkgjmneaeaaGreatDoorFbX
namespace Go.Stx
open Go Go.Proofs
def oThA_0 : List (Nat × Nat) := [(0, 0), (1, 0), (2, 0), (3, 0), (5, 0), (4, 2), (6, 2), (7, 0), (8, 2), (9, 0)]
attribute [local irreducible] AWP LWalk ACall ARounds lops nops
set_option linter.unusedVariables false
set_option linter.unusedSimpArgs false
set_option linter.unusedSectionVars false
set_option maxRecDepth 20000
variable [Gl]

theorem insCells_one {l : List InsV} : (l.flatMap insCells).all Value.oneCell' = true := by
  rw [List.all_eq_true]
  intro v hv
  obtain ⟨x, _, hx⟩ := List.mem_flatMap.1 hv
  simp only [insCells, List.mem_cons, List.not_mem_nil, or_false] at hx
  rcases hx with rfl | rfl | rfl | rfl | rfl <;> rfl

theorem news_ins {A : AW} {o : Option Addr} {c : Nat} {p : List InsV} (h : IsIns A (.slice o p.length c) p) : appNews A 5 (.slice o p.length c) = some (p.length, p.flatMap insCells) := by
  rcases h with ⟨⟨q, h0⟩, h1, h2⟩ | ⟨q, c', row, own, u, e1, e2, e3, e4, e5, e6⟩
  · injection h0 with h3 h4 h5
    have hp : p = [] := List.eq_nil_of_length_eq_zero h1
    subst hp
    subst h5
    cases o <;> simp [appNews]
  · injection e1 with e1 _ e7
    subst e1
    unfold appNews
    by_cases hz : p.length = 0
    · have hp : p = [] := List.eq_nil_of_length_eq_zero hz
      subst hp
      simp
    · simp [hz, AW.row_of e3, e5, e6]

theorem cloneIns_call (v : Value) (p : List InsV) (A : AW) (h : IsIns A v p) (hl : p.length ≤ 1000) :
    ACall Tryz.prog 26 [v] A (fun u A' => ∃ o c, u = .slice o p.length c ∧ A.le A' ∧ A'.Wf) := by
  refine acall_intro Tryz.func26 rfl (by kernel_rfl) fun hw => ?_
  obtain ⟨o, c, rfl, _⟩ := h.form
  cases o with
  | none =>
    have hz : p.length = 0 := by
      rcases h with ⟨_, h1, _⟩ | ⟨q, c', row, own, u, e1, _⟩
      · exact h1
      · cases e1
    have hc : c = 0 := by
      rcases h with ⟨⟨q, h0⟩, h1, _⟩ | ⟨q, c', row, own, u, e1, _⟩
      · injection h0
      · cases e1
    subst hc
    rw [hz]
    repeat' (first
    | (refine lwc fun R hR => ?_; simp [wrap_i64, wrap_u64]; try simp (disch := omega) only [if_pos, if_neg, wrap_i64, wrap_u64])
    | (refine hR _ _ ?_; clear hR R) | (refine hK _ _ ?_; clear hK K) | refine lwn ?_ | refine lr ?_ | refine la ?_
    | refine wn fun K hK => ?_
    | simp only [wS]
    | refine wb ?_ | refine wr ?_ | refine wk ?_ | refine we ?_ | refine ws ?_ | refine wq ?_
    | (refine wc rfl (fun hc => ?_) (fun hc => ?_) <;> (try simp at hc) <;> (try omega))
    | (refine ib (fun hc => ?_) (fun hc => ?_) <;> (try omega) <;> (try simp (disch := omega) only [if_pos, if_neg])))
    exact ⟨_, rfl, none, 0, rfl, AW.le.refl A, hw⟩
  | some q =>
    have h1 := IsSl.le (AW.le.alloc A (.cells [] true 5)) hw h
    have hown : OwnSl A.next (A.alloc (.cells [] true 5)) 5 (.slice (some ⟨A.next, 0, none⟩) 0 0) 0 [] := .inr ⟨⟨A.next, 0, none⟩, 0, [], rfl, Nat.le_refl _, rfl, Nat.le_refl _, by simp, by simp, by simp⟩
    obtain ⟨v', A', e1, e2, e3, e4, e5, e6, e7⟩ := aappend_own (P := Tryz.prog) (size := 5) (t := 25) Tryz.underlying25 Tryz.info36 Tryz.zero36 rfl rfl (by omega) hown (news_ins h1) insCells_one (by omega) (by simp; omega) (by simp) (hw.alloc _)
    obtain ⟨o', c', rfl, _⟩ := e2.is.form
    repeat' (first
    | (refine lwc fun R hR => ?_; simp [wrap_i64, wrap_u64, e1]; try simp (disch := omega) only [if_pos, if_neg, wrap_i64, wrap_u64])
    | (refine hR _ _ ?_; clear hR R) | (refine hK _ _ ?_; clear hK K) | refine lwn ?_ | refine lr ?_ | refine la ?_
    | refine wn fun K hK => ?_
    | simp only [wS]
    | refine wb ?_ | refine wr ?_ | refine wk ?_ | refine we ?_ | refine ws ?_ | refine wq ?_
    | (refine wc rfl (fun hc => ?_) (fun hc => ?_) <;> (try simp at hc) <;> (try omega))
    | (refine ib (fun hc => ?_) (fun hc => ?_) <;> (try omega) <;> (try simp (disch := omega) only [if_pos, if_neg])))
    refine ⟨_, rfl, o', c', by simp, ?_, e4⟩
    exact e3 A (Nat.le_refl _) (AW.le.alloc A _)

theorem limboNew_call (c : CfgS) (A : AW) : ACall Tryz.prog 27 [c.v] A (fun u A' => ∃ b, u = .pointer (some ⟨b, 0, none⟩) ∧ A.le A' ∧ A'.Wf) := by
  refine acall_intro Tryz.func27 rfl (by kernel_rfl) fun hw => ?_
  obtain ⟨wds, ords, bas, c0, c1, c2, c3, rds, wrs, als, fre, clk, stg⟩ := c
  simp only [CfgS.v, CfgS.cells]
  repeat' (first
  | (refine lwc fun R hR => ?_; simp [wrap_i64, wrap_u64, AW.row_get, astore]; try simp (disch := omega) only [if_pos, if_neg, wrap_i64, wrap_u64])
  | (refine hR _ _ ?_; clear hR R) | (refine hK _ _ ?_; clear hK K) | refine lwn ?_ | refine lr ?_ | refine la ?_
  | refine wn fun K hK => ?_
  | simp only [wS]
  | refine wb ?_ | refine wr ?_ | refine wk ?_ | refine we ?_ | refine ws ?_ | refine wq ?_
  | (refine wc rfl (fun hc => ?_) (fun hc => ?_) <;> (try simp at hc) <;> (try omega))
  | (refine ib (fun hc => ?_) (fun hc => ?_) <;> (try omega) <;> (try simp (disch := omega) only [if_pos, if_neg])))
  exact ⟨_, rfl, _, rfl, (AW.le.alloc A _).trans (AW.le.alloc _ _), (hw.alloc _).alloc _⟩

theorem thrTo_call (b : Nat) (cs : List Value) (o : Option Addr) (n c : Nat) (pc : Int) (A : AW) (hg : A.get b = some (.cells cs true 1)) (hk : cs[31]? = some (.slice o n c)) (hl : cs.length = 46) :
    ACall Tryz.prog 28 [.pointer (some ⟨b, 0, none⟩), .int .i64 pc] A (fun u A' => ∃ cs', A' = A.set b (some (.cells cs' true 1))) := by
  refine acall_intro Tryz.func28 rfl (by kernel_rfl) fun hw => ?_
  have h32 : 32 < cs.length := by omega
  have h42 : 42 < cs.length := by omega
  obtain ⟨h31, hk2⟩ := List.getElem?_eq_some_iff.1 hk
  repeat' (first
  | (refine lwc fun R hR => ?_; simp [wrap_i64, wrap_u64, hg, hk2, hl, h31, h32, h42, AW.row_get, astore]; try simp (disch := omega) only [if_pos, if_neg, wrap_i64, wrap_u64])
  | (refine hR _ _ ?_; clear hR R) | (refine hK _ _ ?_; clear hK K) | refine lwn ?_ | refine lr ?_ | refine la ?_
  | refine wn fun K hK => ?_
  | simp only [wS]
  | refine wb ?_ | refine wr ?_ | refine wk ?_ | refine we ?_ | refine ws ?_ | refine wq ?_
  | (refine wc rfl (fun hc => ?_) (fun hc => ?_) <;> (try simp at hc) <;> (try omega))
  | (refine ib (fun hc => ?_) (fun hc => ?_) <;> (try omega) <;> (try simp (disch := omega) only [if_pos, if_neg])))
  exact ⟨_, rfl, _, AW.set_set⟩

def thrErr (c : CfgS) (id n : Int) (p : List InsV) : Int := if cfgErr c ≠ 0 then cfgErr c else if n < 1 ∨ 16 < n ∨ id < 0 ∨ n ≤ id then 54 else (progCheck p).2

set_option maxHeartbeats 4000000 in
theorem threadNew_call (hF : FOK) (c : CfgS) (id n : Int) (v : Value) (p : List InsV) (A : AW) (h : IsIns A v p) (hl : p.length ≤ 1000) :
    ACall Tryz.prog 7 [c.v, .int .i64 id, .int .i64 n, v] A (fun u A' => ∃ w, u = .tuple #[w, .int .i64 (thrErr c id n p)] ∧ (thrErr c id n p = 0 → ∃ b, w = .pointer (some ⟨b, 0, none⟩)) ∧ (thrErr c id n p ≠ 0 → w = .pointer none) ∧ A.le A' ∧ A'.Wf) := by
  refine acall_intro Tryz.func7 rfl (by kernel_rfl) fun hw => ?_
  obtain ⟨o, cc, rfl, _⟩ := h.form
  have hc := cfgCheck_call c
  have hp := fun O => progCheck_call hF (.slice o p.length cc) p (A.alloc O) (IsSl.le (AW.le.alloc A O) hw h)
  have hq := fun O => cloneIns_call (.slice o p.length cc) p (A.alloc O) (IsSl.le (AW.le.alloc A O) hw h) hl
  unfold thrErr
  generalize cfgErr c = ce at hc ⊢
  generalize progCheck p = pc at hp ⊢
  obtain ⟨p1, p2⟩ := pc
  obtain ⟨wds, ords, bas, c0, c1, c2, c3, rds, wrs, als, fre, clk, stg⟩ := c
  unfold errV at hp
  simp only [CfgS.v, CfgS.cells] at hc ⊢
  by_cases e0 : ce = 0
  rotate_left
  · rw [if_pos e0]
    repeat' (first
    | (refine lwc fun R hR => ?_; simp [wrap_i64, wrap_u64, AW.row_get, astore, e0]; try simp (disch := omega) only [if_pos, if_neg, wrap_i64, wrap_u64])
    | (refine hR _ _ ?_; clear hR R) | (refine hK _ _ ?_; clear hK K) | refine lwn ?_ | refine lr ?_ | refine la ?_
    | refine wn fun K hK => ?_
    | simp only [wS, oThA_0]
    | refine wl Tryz.mx oThA_0 (by decide +kernel) fun K hK => ?_
    | (refine callK (hc _) ?_; rintro _ _ ⟨rfl, rfl⟩ _ _)
    | refine wb ?_ | refine wr ?_ | refine wk ?_ | refine we ?_ | refine ws ?_ | refine wq ?_
    | (refine wc rfl (fun hc => ?_) (fun hc => ?_) <;> (try simp at hc) <;> (try omega))
    | (refine ib (fun hc => ?_) (fun hc => ?_) <;> (try omega) <;> (try simp (disch := omega) only [if_pos, if_neg])))
    all_goals (refine ⟨_, by simp [ares, aresL, ares1], _, rfl, fun e => absurd e e0, fun _ => rfl, AW.le.alloc A _, hw.alloc _⟩)
  rw [if_neg (by simpa using e0)]
  have bad : ∀ (u : Value), u = .tuple #[.pointer none, .int .i64 54] → ∀ O, ∃ w, u = .tuple #[w, .int .i64 54] ∧ ((54 : Int) = 0 → ∃ b, w = .pointer (some ⟨b, 0, none⟩)) ∧ ((54 : Int) ≠ 0 → w = .pointer none) ∧ A.le (A.alloc O) ∧ (A.alloc O).Wf :=
    fun u hu O => ⟨_, hu, fun e => by omega, fun _ => rfl, AW.le.alloc A O, hw.alloc O⟩
  by_cases a1 : n < 1
  · rw [if_pos (.inl a1)]
    repeat' (first
    | (refine lwc fun R hR => ?_; simp [wrap_i64, wrap_u64, AW.row_get, astore, e0, a1]; try simp (disch := omega) only [if_pos, if_neg, wrap_i64, wrap_u64])
    | (refine hR _ _ ?_; clear hR R) | (refine hK _ _ ?_; clear hK K) | refine lwn ?_ | refine lr ?_ | refine la ?_
    | refine wn fun K hK => ?_
    | simp only [wS, oThA_0]
    | refine wl Tryz.mx oThA_0 (by decide +kernel) fun K hK => ?_
    | (refine callK (hc _) ?_; rintro _ _ ⟨rfl, rfl⟩ _ _)
    | refine wb ?_ | refine wr ?_ | refine wk ?_ | refine we ?_ | refine ws ?_ | refine wq ?_
    | (refine wc rfl (fun hc => ?_) (fun hc => ?_) <;> (try simp at hc) <;> (try omega))
    | (refine ib (fun hc => ?_) (fun hc => ?_) <;> (try omega) <;> (try simp (disch := omega) only [if_pos, if_neg])))
    all_goals exact ⟨_, by simp [ares, aresL, ares1], bad _ rfl _⟩
  by_cases a2 : 16 < n
  · rw [if_pos (.inr (.inl a2))]
    repeat' (first
    | (refine lwc fun R hR => ?_; simp [wrap_i64, wrap_u64, AW.row_get, astore, e0, a1, a2]; try simp (disch := omega) only [if_pos, if_neg, wrap_i64, wrap_u64])
    | (refine hR _ _ ?_; clear hR R) | (refine hK _ _ ?_; clear hK K) | refine lwn ?_ | refine lr ?_ | refine la ?_
    | refine wn fun K hK => ?_
    | simp only [wS, oThA_0]
    | refine wl Tryz.mx oThA_0 (by decide +kernel) fun K hK => ?_
    | (refine callK (hc _) ?_; rintro _ _ ⟨rfl, rfl⟩ _ _)
    | refine wb ?_ | refine wr ?_ | refine wk ?_ | refine we ?_ | refine ws ?_ | refine wq ?_
    | (refine wc rfl (fun hc => ?_) (fun hc => ?_) <;> (try simp at hc) <;> (try omega))
    | (refine ib (fun hc => ?_) (fun hc => ?_) <;> (try omega) <;> (try simp (disch := omega) only [if_pos, if_neg])))
    all_goals exact ⟨_, by simp [ares, aresL, ares1], bad _ rfl _⟩
  by_cases a3 : id < 0
  · rw [if_pos (.inr (.inr (.inl a3)))]
    repeat' (first
    | (refine lwc fun R hR => ?_; simp [wrap_i64, wrap_u64, AW.row_get, astore, e0, a1, a2, a3]; try simp (disch := omega) only [if_pos, if_neg, wrap_i64, wrap_u64])
    | (refine hR _ _ ?_; clear hR R) | (refine hK _ _ ?_; clear hK K) | refine lwn ?_ | refine lr ?_ | refine la ?_
    | refine wn fun K hK => ?_
    | simp only [wS, oThA_0]
    | refine wl Tryz.mx oThA_0 (by decide +kernel) fun K hK => ?_
    | (refine callK (hc _) ?_; rintro _ _ ⟨rfl, rfl⟩ _ _)
    | refine wb ?_ | refine wr ?_ | refine wk ?_ | refine we ?_ | refine ws ?_ | refine wq ?_
    | (refine wc rfl (fun hc => ?_) (fun hc => ?_) <;> (try simp at hc) <;> (try omega))
    | (refine ib (fun hc => ?_) (fun hc => ?_) <;> (try omega) <;> (try simp (disch := omega) only [if_pos, if_neg])))
    all_goals exact ⟨_, by simp [ares, aresL, ares1], bad _ rfl _⟩
  by_cases a4 : n ≤ id
  · rw [if_pos (.inr (.inr (.inr a4)))]
    repeat' (first
    | (refine lwc fun R hR => ?_; simp [wrap_i64, wrap_u64, AW.row_get, astore, e0, a1, a2, a3, a4]; try simp (disch := omega) only [if_pos, if_neg, wrap_i64, wrap_u64])
    | (refine hR _ _ ?_; clear hR R) | (refine hK _ _ ?_; clear hK K) | refine lwn ?_ | refine lr ?_ | refine la ?_
    | refine wn fun K hK => ?_
    | simp only [wS, oThA_0]
    | refine wl Tryz.mx oThA_0 (by decide +kernel) fun K hK => ?_
    | (refine callK (hc _) ?_; rintro _ _ ⟨rfl, rfl⟩ _ _)
    | refine wb ?_ | refine wr ?_ | refine wk ?_ | refine we ?_ | refine ws ?_ | refine wq ?_
    | (refine wc rfl (fun hc => ?_) (fun hc => ?_) <;> (try simp at hc) <;> (try omega))
    | (refine ib (fun hc => ?_) (fun hc => ?_) <;> (try omega) <;> (try simp (disch := omega) only [if_pos, if_neg])))
    all_goals exact ⟨_, by simp [ares, aresL, ares1], bad _ rfl _⟩
  rw [if_neg (by omega)]
  by_cases e2 : p2 = 0
  rotate_left
  · repeat' (first
  | (refine lwc fun R hR => ?_; simp [wrap_i64, wrap_u64, AW.row_get, astore, e0, a1, a2, a3, a4, e2]; try simp (disch := omega) only [if_pos, if_neg, wrap_i64, wrap_u64])
  | (refine hR _ _ ?_; clear hR R) | (refine hK _ _ ?_; clear hK K) | refine lwn ?_ | refine lr ?_ | refine la ?_
  | refine wn fun K hK => ?_
  | simp only [wS, oThA_0]
  | refine wl Tryz.mx oThA_0 (by decide +kernel) fun K hK => ?_
  | (refine callK (hc _) ?_; rintro _ _ ⟨rfl, rfl⟩ _ _)
  | (refine callK (hp _) ?_; rintro _ _ ⟨rfl, rfl⟩ _ _)
  | refine wb ?_ | refine wr ?_ | refine wk ?_ | refine we ?_ | refine ws ?_ | refine wq ?_
  | (refine wc rfl (fun hc => ?_) (fun hc => ?_) <;> (try simp at hc) <;> (try omega))
  | (refine ib (fun hc => ?_) (fun hc => ?_) <;> (try omega) <;> (try simp (disch := omega) only [if_pos, if_neg])))
    all_goals (refine ⟨_, by simp [ares, aresL, ares1], _, rfl, fun e => absurd e e2, fun _ => rfl, AW.le.alloc A _, hw.alloc _⟩)
  · repeat' (first
  | (refine lwc fun R hR => ?_; simp [wrap_i64, wrap_u64, AW.row_get, astore, e0, a1, a2, a3, a4, e2]; try simp (disch := omega) only [if_pos, if_neg, wrap_i64, wrap_u64])
  | (refine hR _ _ ?_; clear hR R) | (refine hK _ _ ?_; clear hK K) | refine lwn ?_ | refine lr ?_ | refine la ?_
  | refine wn fun K hK => ?_
  | simp only [wS, oThA_0]
  | refine wl Tryz.mx oThA_0 (by decide +kernel) fun K hK => ?_
  | (refine callK (hc _) ?_; rintro _ _ ⟨rfl, rfl⟩ _ _)
  | (refine callK (hp _) ?_; rintro _ _ ⟨rfl, rfl⟩ _ _)
  | refine wb ?_ | refine wr ?_ | refine wk ?_ | refine we ?_ | refine ws ?_ | refine wq ?_
  | (refine wc rfl (fun hc => ?_) (fun hc => ?_) <;> (try simp at hc) <;> (try omega))
  | (refine ib (fun hc => ?_) (fun hc => ?_) <;> (try omega) <;> (try simp (disch := omega) only [if_pos, if_neg])))
    refine (hq _).mono ?_
    rintro u A4 ⟨o4, c4, rfl, hle4, hw4⟩
    first | refine ⟨hle4, ?_⟩ | skip
    have hb4 := hle4.keep (hw.alloc _) (i := A.next) (o := .cells [.int .i64 wds, .int .i64 ords, .int .i64 bas, .int .i64 c0, .int .i64 c1, .int .i64 c2, .int .i64 c3, .int .i64 rds, .int .i64 wrs, .int .i64 als, .int .i64 fre, .int .i64 clk, .bool stg] true 1) (by simp)
    repeat' (first
    | (refine lwc fun R hR => ?_; simp [wrap_i64, wrap_u64, hb4, AW.row_get, astore]; try simp (disch := omega) only [if_pos, if_neg, wrap_i64, wrap_u64])
    | (refine hR _ _ ?_; clear hR R) | (refine hK _ _ ?_; clear hK K) | refine lwn ?_ | refine lr ?_ | refine la ?_
    | refine wn fun K hK => ?_
    | simp only [wS, oThA_0]
    | refine wl Tryz.mx oThA_0 (by decide +kernel) fun K hK => ?_
    | refine wb ?_ | refine wr ?_ | refine wk ?_ | refine we ?_ | refine ws ?_ | refine wq ?_
    | (refine wc rfl (fun hc => ?_) (fun hc => ?_) <;> (try simp at hc) <;> (try omega))
    | (refine ib (fun hc => ?_) (fun hc => ?_) <;> (try omega) <;> (try simp (disch := omega) only [if_pos, if_neg])))
    refine (limboNew_call ⟨wds, ords, bas, c0, c1, c2, c3, rds, wrs, als, fre, clk, stg⟩ _).mono ?_
    rintro u A5 ⟨b5, rfl, hle5, hw5⟩
    first | refine ⟨hle5, ?_⟩ | skip
    repeat' (first
    | (refine lwc fun R hR => ?_; simp [wrap_i64, wrap_u64, AW.row_get, astore]; try simp (disch := omega) only [if_pos, if_neg, wrap_i64, wrap_u64])
    | (refine hR _ _ ?_; clear hR R) | (refine hK _ _ ?_; clear hK K) | refine lwn ?_ | refine lr ?_ | refine la ?_
    | refine wn fun K hK => ?_
    | simp only [wS, oThA_0]
    | refine wl Tryz.mx oThA_0 (by decide +kernel) fun K hK => ?_
    | refine wb ?_ | refine wr ?_ | refine wk ?_ | refine we ?_ | refine ws ?_ | refine wq ?_
    | (refine wc rfl (fun hc => ?_) (fun hc => ?_) <;> (try simp at hc) <;> (try omega))
    | (refine ib (fun hc => ?_) (fun hc => ?_) <;> (try omega) <;> (try simp (disch := omega) only [if_pos, if_neg])))
    refine (thrTo_call A5.next _ o4 p.length c4 0 _ (AW.alloc_get_new _ _) rfl rfl).mono ?_
    rintro u A6 ⟨cs', rfl⟩
    first | refine ⟨AW.le.refl _, ?_⟩ | skip
    repeat' (first
    | (refine lwc fun R hR => ?_; simp [wrap_i64, wrap_u64, AW.row_get, astore]; try simp (disch := omega) only [if_pos, if_neg, wrap_i64, wrap_u64])
    | (refine hR _ _ ?_; clear hR R) | (refine hK _ _ ?_; clear hK K) | refine lwn ?_ | refine lr ?_ | refine la ?_
    | refine wn fun K hK => ?_
    | simp only [wS, oThA_0]
    | refine wl Tryz.mx oThA_0 (by decide +kernel) fun K hK => ?_
    | refine wb ?_ | refine wr ?_ | refine wk ?_ | refine we ?_ | refine ws ?_ | refine wq ?_
    | (refine wc rfl (fun hc => ?_) (fun hc => ?_) <;> (try simp at hc) <;> (try omega))
    | (refine ib (fun hc => ?_) (fun hc => ?_) <;> (try omega) <;> (try simp (disch := omega) only [if_pos, if_neg])))
    all_goals (refine ⟨_, by simp [ares, aresL, ares1, e2], _, rfl, fun _ => ⟨A5.next, rfl⟩, fun e => absurd e2 e, ?_, ?_⟩)
    all_goals first | exact (((AW.le.alloc A _).trans hle4).trans hle5).trans (AW.le.upd A5 _ _) | exact (hw5.alloc _).set _ (by simp)
end Go.Stx
