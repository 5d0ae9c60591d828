/-
  report.step: the words of a step.
-/
import Derived.Test.YtbacpfealpblkaaDoorRepA
namespace Go.Stx
open Go Go.Proofs
def oRepB_0 : List (Nat × Nat) := [(0, 0), (1, 0), (2, 0), (4, 0), (5, 0), (7, 0), (3, 2), (6, 2), (8, 2), (9, 3), (10, 0)]
attribute [local irreducible] AWP LWalk ACall ARounds lops nops
set_option linter.unusedVariables false
set_option linter.unusedSimpArgs false
set_option linter.unusedSectionVars false
set_option maxRecDepth 20000
variable [Gl]

theorem ints3 {A : AW} {b : Nat} (x y z : Int) (hg : A.get b = some (.cells [.int .i64 x, .int .i64 y, .int .i64 z] true 1)) : IsInts A .i64 (.slice (some ⟨b, 0, none⟩) 3 3) [x, y, z] :=
  IsInts.of_get hg rfl (by simp) rfl

/-- append(out, l...), out our own. -/
theorem append_all {P : Program} {A : AW} {t e : TypeId} {i : TypeInfo} {z : Value} {B n m : Nat} {v x : Value} {cs new : List Value}
    (hu : P.underlying t = some (.slice e)) (hi : P.info? e = some i) (hz : i.zero = some z) (hsize : i.size = 1) (hzs : z.cells.size = 1)
    (hown : OwnSl B A 1 v n cs) (hx : IsSl A 1 x m new) (hone : new.all Value.oneCell' = true) (hlen : n + m < 2 ^ 40) (hby : i.bytes ≤ 72) (hB : B ≤ A.next) (hw : A.Wf) :
    ∃ v' A', aappend P A t t v x = some (v', A') ∧ OwnSl B A' 1 v' (n + m) (cs ++ new) ∧ (∀ A0 : AW, A0.next ≤ B → A0.le A → A0.le A') ∧ A'.Wf ∧ A.next ≤ A'.next ∧
      (∀ j, j < A.next → slBlock v ≠ some j → A'.get j = A.get j) := by
  have hb : (n + m) * i.bytes ≤ 140737488355328 := by
    have := Nat.mul_le_mul_left (n + m) hby
    omega
  obtain ⟨v', A', h1, h2, h3, h4, h5, h6, _⟩ := aappend_own (P := P) (t := t) hu hi hz hsize hzs (by omega) hown hx.news hone (by omega) hb hB hw
  exact ⟨v', A', h1, h2, h3, h4, h5, h6⟩

theorem IsSl.of_cells {A : AW} {b n : Nat} {cs : List Value} {own : Bool} (hg : A.get b = some (.cells cs own 1)) (hn : cs.length = n) : IsSl A 1 (.slice (some ⟨b, 0, none⟩) n n) n cs := by
  refine .inr ⟨⟨b, 0, none⟩, n, cs, own, 1, rfl, Nat.le_refl _, hg, rfl, by simp; omega, ?_⟩
  rw [List.drop_zero, List.take_of_length_le (by omega)]

theorem OwnSl.weak {B B' : Nat} (hB : B' ≤ B) {A : AW} {size : Nat} {v : Value} {n : Nat} {cs : List Value} (h : OwnSl B A size v n cs) : OwnSl B' A size v n cs := by
  rcases h with h | ⟨p, c, row, h1, h2, h3, h4, h5⟩
  · exact .inl h
  · exact .inr ⟨p, c, row, h1, h2, h3, Nat.le_trans hB h4, h5⟩

theorem OwnSl.far {B j : Nat} {A : AW} {size : Nat} {v : Value} {n : Nat} {cs : List Value} (h : OwnSl B A size v n cs) (hw : A.Wf) (hj : A.next ≤ j) : slBlock v ≠ some j := by
  rcases h with ⟨rfl, _, _⟩ | ⟨p, c, row, rfl, _, _, _, h5, _⟩
  · simp [slBlock]
  · have := hw.lt h5
    simp [slBlock]; omega

theorem OwnSl.shape {B : Nat} {A : AW} {size : Nat} {v : Value} {n : Nat} {cs : List Value} (h : OwnSl B A size v n cs) : ∃ o c, v = .slice o n c ∧ n ≤ c := IsSl.form h.is

set_option maxHeartbeats 4000000 in
theorem step_call (hG : GOK) (s : StepV) (h : s.Ok) (A : AW) :
    ACall Tryd.prog 16 [stepVal s] A (fun u A' => OwnSl A.next A' 1 u (stepW s).length (strs (stepW s)) ∧ A.le A') := by
  refine acall_intro Tryd.func16 rfl (by kernel_rfl) fun hw => ?_
  have hi := idle_eq s
  refine wq ?_
  repeat' (first
  | (refine lwc fun R hR => ?_; simp [wrap_i64, wrap_u64, stepVal, stepCells, mk_bs, AW.row_get, aequal, aeqFields, hi, astore]; try simp (disch := omega) only [if_pos, if_neg, wrap_i64, wrap_u64])
  | (refine hR _ _ ?_; clear hR R) | (refine hK _ _ ?_; clear hK K) | refine lwn ?_ | refine lr ?_ | refine la ?_
  | refine wn fun K hK => ?_
  | simp only [wS, oRepB_0]
  | refine wl Tryd.mx oRepB_0 (by decide +kernel) fun K hK => ?_
  | refine wb ?_ | refine wr ?_ | refine wk ?_ | refine we ?_ | refine ws ?_ | refine wq ?_
  | (refine wc rfl (fun hc => ?_) (fun hc => ?_) <;> (try simp at hc) <;> (try omega))
  | (refine ib (fun hc => ?_) (fun hc => ?_) <;> (try omega) <;> (try simp (disch := omega) only [if_pos, if_neg])))
  refine callK (numbers_call hG _ [s.t, s.p, s.a] _ (ints3 _ _ _ (by simp)) (by simp) (by simp [h.t, h.p, h.a])) ?_
  rintro u1 A1 ⟨h1, l1⟩ w1 n1
  have l1' : A.le A1 := ((AW.le.alloc A _).trans (AW.le.alloc _ _)).trans l1
  have g0 : A1.get A.next = some (.cells (stepCells s) true 1) := by
    rw [l1.get _ (by simp; omega)]
    simp [AW.alloc, stepCells]
  have hlt : A.next + 1 < A1.next := by simp at n1; omega
  have h1 := OwnSl.weak (B' := A.next) (by simp; omega) h1
  simp only [List.length_cons, List.length_nil, List.map_cons, List.map_nil] at h1
  obtain ⟨o1, c1, rfl, _⟩ := h1.shape
  clear n1 l1
  simp only [stepCells] at g0
  have hn0 : ¬ A.next = A1.next := by omega
  have hn1 : ¬ A.next = A1.next + 1 := by omega
  repeat' (first
  | (refine lwc fun R hR => ?_; simp [wrap_i64, wrap_u64, mk_bs, AW.row_get, aequal, aeqFields, hi, g0, hn0, hn1, astore]; try simp (disch := omega) only [if_pos, if_neg, wrap_i64, wrap_u64])
  | (refine hR _ _ ?_; clear hR R) | (refine hK _ _ ?_; clear hK K) | refine lwn ?_ | refine lr ?_ | refine la ?_
  | refine wn fun K hK => ?_
  | simp only [wS, oRepB_0]
  | refine wl Tryd.mx oRepB_0 (by decide +kernel) fun K hK => ?_
  | refine wb ?_ | refine wr ?_ | refine wk ?_ | refine we ?_ | refine ws ?_ | refine wq ?_
  | (refine wc rfl (fun hc => ?_) (fun hc => ?_) <;> (try simp at hc) <;> (try omega))
  | (refine ib (fun hc => ?_) (fun hc => ?_) <;> (try omega) <;> (try simp (disch := omega) only [if_pos, if_neg])))
  · have hi' : s.idle := hc
    simp [AThen]
    refine ⟨?_, l1'⟩
    simpa [stepW, hi', headW, strs] using h1
  have hi' : ¬ s.idle := fun ⟨e1, e2, e3, e4, e5, e6⟩ => by have := hc e1 e2 e3 e4 e5; rw [e6] at this; cases this
  refine callK (numbers_call hG _ [s.k, s.c, s.i] _ (ints3 _ _ _ (by simp)) (by simp) (by simp [h.k, h.c, h.i])) ?_
  rintro u2 A2 ⟨h2, l2⟩ w2 n2
  have l3 : A1.le A2 := (((AW.le.alloc A1 _).set (Nat.le_refl _) _).trans (AW.le.alloc _ _)).trans l2
  have l2' : A.le A2 := l1'.trans l3
  have g1 : A2.get A1.next = some (.cells [.int .i64 s.k, .int .i64 s.c, .int .i64 s.i, .int .u64 s.g, .int .u64 s.u, .bool s.d] true 1) := by
    rw [l2.get _ (by simp; omega)]
    simp [AW.alloc, AW.set]
  have hlt2 : A1.next + 1 < A2.next := by simp at n2; omega
  have h2 := OwnSl.weak (B' := A.next) (by simp; omega) h2
  simp only [List.length_cons, List.length_nil, List.map_cons, List.map_nil] at h2
  have hfar := h1.far w1 (Nat.le_refl _)
  have h1 := h1.le l3 w1
  obtain ⟨v3, A3, e1, h3, k3, w3, n3, q3⟩ := append_all (P := Tryd.prog) (t := 33) Tryd.underlying33 Tryd.info9 Tryd.zero9 rfl rfl h1 h2.is rfl (by omega) (by simp) l2'.next w2
  have l4 := k3 A (Nat.le_refl _) l2'
  obtain ⟨o2, c2, rfl, _⟩ := h2.shape
  have g2 : A3.get A1.next = some (.cells [.int .i64 s.k, .int .i64 s.c, .int .i64 s.i, .int .u64 s.g, .int .u64 s.u, .bool s.d] true 1) := by
    rw [q3 _ (by omega) hfar, g1]
  have fin : ∀ x : Value, x.oneCell' = true → ∃ v4 A4, aappend Tryd.prog (A3.alloc (.cells [.string (bs (Lib.decDigits s.g)), .string (bs (Lib.decDigits s.u)), x] true 1)) 33 33 v3 (.slice (some ⟨A3.next, 0, none⟩) 3 3) = some (v4, A4) ∧
      OwnSl A.next A4 1 v4 9 (strs (headW s) ++ strs [Lib.itoa s.k, Lib.itoa s.c, Lib.itoa s.i] ++ [.string (bs (Lib.decDigits s.g)), .string (bs (Lib.decDigits s.u)), x]) ∧ A.le A4 := fun x hx => by
    obtain ⟨v4, A4, e4, h4, k4, w4, n4, q4⟩ := append_all (P := Tryd.prog) (t := 33) Tryd.underlying33 Tryd.info9 Tryd.zero9 rfl rfl (h3.le (AW.le.alloc A3 (.cells [.string (bs (Lib.decDigits s.g)), .string (bs (Lib.decDigits s.u)), x] true 1)) w3)
      (IsSl.of_cells (n := 3) (AW.alloc_get_new _ _) rfl) (by show (true && (true && (x.oneCell' && true))) = true; rw [hx]; rfl) (by omega) (by simp) (by have := l4.next; simp; omega) (w3.alloc _)
    exact ⟨v4, A4, e4, h4, k4 A (Nat.le_refl _) (l4.trans (AW.le.alloc _ _))⟩
  obtain ⟨v4, A4, e4, h4, l5⟩ := fin (.string (bs [49])) rfl
  obtain ⟨v5, A5, e5, h5, l6⟩ := fin (.string (bs [48])) rfl
  clear fin n2 l2 l3
  repeat' (first
  | (refine lwc fun R hR => ?_; simp [wrap_i64, wrap_u64, mk_bs, AW.row_get, e1, g2, e4, e5]; try simp (disch := omega) only [if_pos, if_neg, wrap_i64, wrap_u64])
  | (refine hR _ _ ?_; clear hR R) | (refine hK _ _ ?_; clear hK K) | refine lwn ?_ | refine lr ?_ | refine la ?_
  | refine wn fun K hK => ?_
  | simp only [wS, oRepB_0]
  | refine wl Tryd.mx oRepB_0 (by decide +kernel) fun K hK => ?_
  | (refine callK (utoa_call hG s.g h.g _) ?_; rintro _ _ ⟨rfl, rfl⟩ _ _)
  | (refine callK (utoa_call hG s.u h.u _) ?_; rintro _ _ ⟨rfl, rfl⟩ _ _)
  | (refine ⟨AW.le.refl _, ?_⟩)
  | refine wb ?_ | refine wr ?_ | refine wk ?_ | refine we ?_ | refine ws ?_ | refine wq ?_
  | (refine wc rfl (fun hc => ?_) (fun hc => ?_) <;> (try simp at hc) <;> (try omega))
  | (refine ib (fun hc => ?_) (fun hc => ?_) <;> (try omega) <;> (try simp (disch := omega) only [if_pos, if_neg])))
  · simp
    refine ⟨?_, l5⟩
    simpa [stepW, hi', headW, tailW, doneW, hc, strs] using h4
  · simp
    refine ⟨?_, l6⟩
    simpa [stepW, hi', headW, tailW, doneW, hc, strs] using h5

end Go.Stx
