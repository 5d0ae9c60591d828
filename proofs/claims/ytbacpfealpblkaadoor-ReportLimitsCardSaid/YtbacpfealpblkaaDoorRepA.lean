/-
  Steps as words: report.numbers, report.step, and the reference's Line and Steps.
-/
import Derived.Test.YtbacpfealpblkaaDoorCoreB
import Derived.Test.YtbacpfealpblkaaDoorFacts
import Derived.Test.YtbacpfealpblkaaDoorRepG
namespace Go.Stx
open Go Go.Proofs
def oRepA_0 : List (Nat × Nat) := [(0, 0), (1, 0), (4, 0), (5, 0), (9, 0), (10, 0), (2, 2), (3, 0), (6, 2), (7, 0), (8, 0), (11, 2), (12, 0), (13, 0)]
def oRepA_1 : List (Nat × Nat) := [(0, 0), (1, 0), (2, 0), (3, 0), (7, 0), (8, 0), (12, 0), (13, 0), (17, 0), (18, 0), (22, 0), (23, 0), (27, 0), (4, 2), (5, 0), (6, 0), (9, 2), (10, 0), (11, 0), (14, 2), (15, 0), (16, 0), (19, 2), (20, 0), (21, 0), (24, 2), (25, 0), (26, 0), (28, 0), (29, 0)]
attribute [local irreducible] AWP LWalk ACall ARounds lops nops
set_option linter.unusedVariables false
set_option linter.unusedSimpArgs false
set_option linter.unusedSectionVars false

theorem bs_toList (l : List UInt8) : (bs l).toList = l := by
  rw [ByteArray.toList_eq]; rfl

theorem mk_bs (l : List UInt8) : ByteArray.mk l.toArray = bs l := rfl

variable [Gl]

/-- append(out, y): the one element lies in a row made just before. -/
theorem append_one {P : Program} {A : AW} {t e : TypeId} {i : TypeInfo} {z : Value} {B n size : Nat} {v : Value} {cs : List Value} (ys : List Value)
    (hu : P.underlying t = some (.slice e)) (hi : P.info? e = some i) (hz : i.zero = some z) (hsize : i.size = size) (hzs : z.cells.size = size) (h0 : 0 < size)
    (hy : ys.length = size) (hone : ys.all Value.oneCell' = true)
    (hown : OwnSl B A size v n cs) (hlen : n < 2 ^ 40) (hby : i.bytes ≤ 72) (hB : B ≤ A.next) (hw : A.Wf) :
    ∃ v' A', aappend P (A.alloc (.cells ys true size)) t t v (.slice (some ⟨A.next, 0, none⟩) 1 1) = some (v', A') ∧ OwnSl B A' size v' (n + 1) (cs ++ ys) ∧
      (∀ A0 : AW, A0.next ≤ B → A0.le A → A0.le A') ∧ A'.Wf ∧ A.next ≤ A'.next := by
  have hown' := OwnSl.le (AW.le.alloc A (.cells ys true size)) hw hown
  have hnews : appNews (A.alloc (.cells ys true size)) size (.slice (some ⟨A.next, 0, none⟩) 1 1) = some (1, ys) := by
    simp [appNews, AW.row, hy]
    rw [List.take_of_length_le (by omega)]
  have hb : (n + 1) * i.bytes ≤ 140737488355328 := by
    have := Nat.mul_le_mul_left (n + 1) hby
    omega
  obtain ⟨v', A', h1, h2, h3, h4, h5, _⟩ := aappend_own (P := P) (t := t) hu hi hz hsize hzs h0 hown' hnews hone (by omega) hb (by simp; omega) (hw.alloc _)
  exact ⟨v', A', h1, h2, fun A0 ha hl => h3 A0 ha (hl.trans (AW.le.alloc A _)), h4, by simp at h5; omega⟩

def sv (s : BS) : Value := .string (bs s)

theorem itoa_call (hG : GOK) (n : Int) (h : i64R n) (A : AW) : ACall Tryd.prog 35 [.int .i64 n] A fun v A' => v = .string (bs (Lib.itoa n)) ∧ A = A' :=
  (itoa_pure hG n h.1 h.2 A).call ⟨rfl, rfl⟩
theorem utoa_call (hG : GOK) (u : Nat) (h : u < 18446744073709551616) (A : AW) : ACall Tryd.prog 25 [.int .u64 u, .int .i64 10] A fun v A' => v = .string (bs (Lib.decDigits u)) ∧ A = A' :=
  (utoa_pure hG u h A).call ⟨rfl, rfl⟩

set_option maxHeartbeats 1000000 in
theorem numbers_call (hG : GOK) (v : Value) (l : List Int) (A : AW) (h : IsInts A .i64 v l) (hl : l.length < 2^30) (hr : ∀ n ∈ l, i64R n) :
    ACall Tryd.prog 24 [v] A (fun u A' => OwnSl A.next A' 1 u l.length (l.map fun n => Value.string (bs (Lib.itoa n))) ∧ A.le A') := by
  refine acall_intro Tryd.func24 rfl (by kernel_rfl) fun hw => ?_
  obtain ⟨o, c, rfl, _⟩ := h.form
  repeat' (first
  | (refine lwc fun R hR => ?_; simp [wrap_i64, wrap_u64]; try simp (disch := omega) only [if_pos, if_neg, wrap_i64, wrap_u64])
  | (refine hR _ _ ?_; clear hR R) | (refine hK _ _ ?_; clear hK K) | refine lwn ?_ | refine lr ?_ | refine la ?_
  | refine wn fun K hK => ?_
  | simp only [wS]
  | refine wb ?_ | refine wr ?_ | refine wk ?_ | refine we ?_ | refine ws ?_ | refine wq ?_
  | (refine wc rfl (fun hc => ?_) (fun hc => ?_) <;> (try simp at hc) <;> (try omega))
  | (refine ib (fun hc => ?_) (fun hc => ?_) <;> (try omega) <;> (try simp (disch := omega) only [if_pos, if_neg])))
  refine awp_loop (fun k fr A' => ∃ (j : Nat) (u : Value), k = l.length - j ∧ j ≤ l.length ∧ fr 6 = .slice o l.length c ∧ fr 7 = .int .i64 l.length ∧ fr 8 = .int .i64 j ∧ fr 3 = u ∧
    OwnSl A.next A' 1 u j ((l.take j).map fun n => Value.string (bs (Lib.itoa n))) ∧ A.le A' ∧ A'.Wf) l.length ?_ ?_
  · exact ⟨0, _, by simp, by simp, rfl, rfl, rfl, rfl, OwnSl.nil _ _ _, AW.le.refl A, hw⟩
  · rintro k fr A' ⟨j, u, rfl, hj, g6, g7, g8, g3, hown, hle, hw'⟩
    by_cases hlt : j < l.length
    case neg =>
      have hjl : j = l.length := by omega
      repeat' (first
      | (refine lwc fun R hR => ?_; simp [wrap_i64, wrap_u64, g6, g7, g8, g3, hlt]; try simp (disch := omega) only [if_pos, if_neg, wrap_i64, wrap_u64])
      | (refine hR _ _ ?_; clear hR R) | (refine hK _ _ ?_; clear hK K) | refine lwn ?_ | refine lr ?_ | refine la ?_
      | refine wn fun K hK => ?_
      | simp only [wS]
      | refine wb ?_ | refine wr ?_ | refine wk ?_ | refine we ?_ | refine ws ?_ | refine wq ?_
      | (refine wc rfl (fun hc => ?_) (fun hc => ?_) <;> (try simp at hc) <;> (try omega))
      | (refine ib (fun hc => ?_) (fun hc => ?_) <;> (try omega) <;> (try simp (disch := omega) only [if_pos, if_neg])))
      rw [hjl, List.take_length] at hown
      simpa using ⟨hown, hle⟩
    have hj1 : IntKind.i64.wrap ((j : Int) + 1) = ((j + 1 : Nat) : Int) := wrap_i64 (by omega) (by omega)
    obtain ⟨p, row, rfl, hrow, hcell⟩ := (h.le hle hw).at hlt
    obtain ⟨v', A2, e1, e2, e3, e4, e5⟩ := append_one (size := 1) (P := Tryd.prog) (t := 33) [.string (bs (Lib.itoa l[j]))] Tryd.underlying33 Tryd.info9 Tryd.zero9 rfl rfl (by decide) rfl rfl hown (by omega) (by simp) hle.next hw'
    repeat' (first
    | (refine lwc fun R hR => ?_; simp [wrap_i64, wrap_u64, g6, g7, g8, g3, hlt, hrow, hcell, hj1, e1]; try simp (disch := omega) only [if_pos, if_neg, wrap_i64, wrap_u64])
    | (refine hR _ _ ?_; clear hR R) | (refine hK _ _ ?_; clear hK K) | refine lwn ?_ | refine lr ?_ | refine la ?_
    | refine wn fun K hK => ?_
    | simp only [wS]
    | (refine callK (itoa_call hG l[j] (hr _ (List.getElem_mem hlt)) _) ?_; rintro _ _ ⟨rfl, rfl⟩ _ _)
    | refine wb ?_ | refine wr ?_ | refine wk ?_ | refine we ?_ | refine ws ?_ | refine wq ?_
    | (refine wc rfl (fun hc => ?_) (fun hc => ?_) <;> (try simp at hc) <;> (try omega))
    | (refine ib (fun hc => ?_) (fun hc => ?_) <;> (try omega) <;> (try simp (disch := omega) only [if_pos, if_neg])))
    refine ⟨l.length - (j + 1), by omega, j + 1, v', rfl, by omega, ?_, ?_, ?_, ?_, ?_, e3 A (Nat.le_refl _) hle, e4⟩
    · simp [g6]
    · simp [g7]
    · simp
    · simp
    · rw [List.take_add_one, List.getElem?_eq_getElem hlt, List.map_append]
      exact e2

/-! ### A step -/

def stepCells (s : StepV) : List Value := [.int .i64 s.t, .int .i64 s.p, .int .i64 s.a, .int .i64 s.k, .int .i64 s.c, .int .i64 s.i, .int .u64 s.g, .int .u64 s.u, .bool s.d]
def stepVal (s : StepV) : Value := .agg (stepCells s).toArray
def strs (l : List BS) : List Value := l.map fun x => Value.string (bs x)

theorem idle_eq (s : StepV) : ((decide (s.k = 0)) && (decide (s.c = 0)) && (decide (s.i = 0)) && (decide (s.g = 0)) && (decide (s.u = 0)) && !s.d) = decide s.idle := by
  rw [Bool.eq_iff_iff, decide_eq_true_iff]
  simp [StepV.idle, and_assoc]

theorem itoa_len' {n : Int} (h : i64R n) : (Lib.itoa n).length ≤ 21 := itoa_len n h.1 h.2

theorem number_pure (hG : GOK) (n : Int) (h : i64R n) (A : AW) : APure Tryd.prog 26 [.int .i64 n] A (.string (bs (Lib.itoa n))) := by
  refine APure.of_call rfl ?_
  refine acall_intro Tryd.func26 rfl (by kernel_rfl) fun hw => ?_
  repeat' (first
  | (refine lwc fun R hR => ?_; simp [wrap_i64, wrap_u64]; try simp (disch := omega) only [if_pos, if_neg, wrap_i64, wrap_u64])
  | (refine hR _ _ ?_; clear hR R) | (refine hK _ _ ?_; clear hK K) | refine lwn ?_ | refine lr ?_ | refine la ?_
  | refine wn fun K hK => ?_
  | simp only [wS]
  | (refine callK (itoa_call hG n h _) ?_; rintro _ _ ⟨rfl, rfl⟩ _ _)
  | refine wb ?_ | refine wr ?_ | refine wk ?_ | refine we ?_ | refine ws ?_ | refine wq ?_
  | (refine wc rfl (fun hc => ?_) (fun hc => ?_) <;> (try simp at hc) <;> (try omega))
  | (refine ib (fun hc => ?_) (fun hc => ?_) <;> (try omega) <;> (try simp (disch := omega) only [if_pos, if_neg])))
  simp
theorem word_pure (hG : GOK) (u : Nat) (h : u < 18446744073709551616) (A : AW) : APure Tryd.prog 27 [.int .u64 u] A (.string (bs (Lib.decDigits u))) := by
  refine APure.of_call rfl ?_
  refine acall_intro Tryd.func27 rfl (by kernel_rfl) fun hw => ?_
  repeat' (first
  | (refine lwc fun R hR => ?_; simp [wrap_i64, wrap_u64]; try simp (disch := omega) only [if_pos, if_neg, wrap_i64, wrap_u64])
  | (refine hR _ _ ?_; clear hR R) | (refine hK _ _ ?_; clear hK K) | refine lwn ?_ | refine lr ?_ | refine la ?_
  | refine wn fun K hK => ?_
  | simp only [wS]
  | (refine callK (utoa_call hG u h _) ?_; rintro _ _ ⟨rfl, rfl⟩ _ _)
  | refine wb ?_ | refine wr ?_ | refine wk ?_ | refine we ?_ | refine ws ?_ | refine wq ?_
  | (refine wc rfl (fun hc => ?_) (fun hc => ?_) <;> (try simp at hc) <;> (try omega))
  | (refine ib (fun hc => ?_) (fun hc => ?_) <;> (try omega) <;> (try simp (disch := omega) only [if_pos, if_neg])))
  simp

theorem number_call (hG : GOK) (n : Int) (h : i64R n) (A : AW) : ACall Tryd.prog 26 [.int .i64 n] A fun v A' => v = .string (bs (Lib.itoa n)) ∧ A = A' := (number_pure hG n h A).call ⟨rfl, rfl⟩
theorem word_call (hG : GOK) (n : Nat) (h : n < 18446744073709551616) (A : AW) : ACall Tryd.prog 27 [.int .u64 n] A fun v A' => v = .string (bs (Lib.decDigits n)) ∧ A = A' := (word_pure hG n h A).call ⟨rfl, rfl⟩

set_option maxHeartbeats 2000000 in
theorem refLine_call0 (hG : GOK) (s : StepV) (h : s.Ok) (A : AW) :
    ACall Tryd.prog 18 [stepVal s] A (fun v A' => v = .string (bs (lineF s)) ∧ A.le A') := by
  refine acall_intro Tryd.func18 rfl (by kernel_rfl) fun hw => ?_
  have l1 := itoa_len' h.t
  have l2 := itoa_len' h.p
  have l3 := itoa_len' h.a
  have l4 := itoa_len' h.k
  have l5 := itoa_len' h.c
  have l6 := itoa_len' h.i
  have l7 := dig_len s.g h.g
  have l8 := dig_len s.u h.u
  have hi := idle_eq s
  repeat' (first
  | (refine lwc fun R hR => ?_; simp [wrap_i64, wrap_u64, stepVal, stepCells, bs_size, bs_app, mk_bs, AW.row_get, aequal, aeqFields, hi, astore]; try simp (disch := omega) only [if_pos, if_neg, wrap_i64, wrap_u64])
  | (refine hR _ _ ?_; clear hR R) | (refine hK _ _ ?_; clear hK K) | refine lwn ?_ | refine lr ?_ | refine la ?_
  | refine wn fun K hK => ?_
  | simp only [wS, oRepA_0, oRepA_1]
  | refine wl Tryd.mx oRepA_0 (by decide +kernel) fun K hK => ?_
  | refine wl Tryd.mx oRepA_1 (by decide +kernel) fun K hK => ?_
  | (refine callK (number_call hG s.t h.t _) ?_; rintro _ _ ⟨rfl, rfl⟩ _ _)
  | (refine callK (number_call hG s.p h.p _) ?_; rintro _ _ ⟨rfl, rfl⟩ _ _)
  | (refine callK (number_call hG s.a h.a _) ?_; rintro _ _ ⟨rfl, rfl⟩ _ _)
  | (refine callK (number_call hG s.k h.k _) ?_; rintro _ _ ⟨rfl, rfl⟩ _ _)
  | (refine callK (number_call hG s.c h.c _) ?_; rintro _ _ ⟨rfl, rfl⟩ _ _)
  | (refine callK (number_call hG s.i h.i _) ?_; rintro _ _ ⟨rfl, rfl⟩ _ _)
  | (refine callK (word_call hG s.g h.g _) ?_; rintro _ _ ⟨rfl, rfl⟩ _ _)
  | (refine callK (word_call hG s.u h.u _) ?_; rintro _ _ ⟨rfl, rfl⟩ _ _)
  | (refine ⟨AW.le.refl _, ?_⟩)
  | refine wb ?_ | refine wr ?_ | refine wk ?_ | refine we ?_ | refine ws ?_ | refine wq ?_
  | (refine wc rfl (fun hc => ?_) (fun hc => ?_) <;> (try simp at hc) <;> (try omega))
  | (refine ib (fun hc => ?_) (fun hc => ?_) <;> (try omega) <;> (try simp (disch := omega) only [if_pos, if_neg])))
  · have hi' : s.idle := hc
    simp [AThen, lineF, stepW, hi', headW, Lib.join_cons, Lib.joinTail]
    exact ((AW.le.alloc A _).trans (AW.le.alloc _ _)).set (by simp) _
  · rename_i hc' _ _
    have hi' : ¬ s.idle := fun ⟨e1, e2, e3, e4, e5, e6⟩ => by rw [e6] at hc; cases hc
    simp [AThen, lineF, stepW, hi', headW, tailW, doneW, hc, Lib.join_cons, Lib.joinTail]
    exact ((AW.le.alloc A _).trans (AW.le.alloc _ _)).set (by simp) _
  · have hc' : s.k = 0 → s.c = 0 → s.i = 0 → s.g = 0 → s.u = 0 → s.d = true := by assumption
    have hi' : ¬ s.idle := fun ⟨e1, e2, e3, e4, e5, e6⟩ => by have := hc' e1 e2 e3 e4 e5; rw [e6] at this; cases this
    simp [AThen, lineF, stepW, hi', headW, tailW, doneW, hc, Lib.join_cons, Lib.joinTail]
    exact ((AW.le.alloc A _).trans (AW.le.alloc _ _)).set (by simp) _
theorem refLine_call (hG : GOK) (s : StepV) (h : s.Ok) (A : AW) :
    ACall Tryd.prog 18 [stepVal s] A (fun v A' => v = .string (bs (lineF s)) ∧ A = A') :=
  ACall.gc0 (VBelow.of_scalar rfl) (fun _ => refLine_call0 hG s h A) (by kernel_rfl)

/-! ### Steps -/

def IsSteps (A : AW) (v : Value) (l : List StepV) : Prop := IsSl A 9 v l.length (l.flatMap stepCells)

theorem flat_get : ∀ (l : List StepV) (j : Nat) (hj : j < l.length), ((l.flatMap stepCells).drop (j * 9)).take 9 = stepCells l[j]
  | [], j, hj => by simp at hj
  | s :: l, 0, hj => by simp [stepCells]
  | s :: l, j + 1, hj => by
    have e : (j + 1) * 9 = (stepCells s).length + j * 9 := by simp [stepCells]; omega
    rw [List.flatMap_cons, e, List.drop_length_add_append]
    exact flat_get l j (by simpa using hj)

theorem IsSteps.form {A : AW} {v : Value} {l : List StepV} (h : IsSteps A v l) : ∃ o c, v = .slice o l.length c ∧ l.length ≤ c := IsSl.form h
theorem IsSteps.le {A B : AW} (hl : A.le B) (hw : A.Wf) {v : Value} {l : List StepV} (h : IsSteps A v l) : IsSteps B v l := IsSl.le hl hw h
theorem IsSteps.at {A : AW} {o : Option Addr} {c n : Nat} {l : List StepV} (h : IsSteps A (.slice o n c) l) {i : Nat} (hi : i < l.length) :
    ∃ p row, o = some p ∧ A.row p.block = some row ∧ p.off + i * 9 + 9 ≤ row.length ∧ (row.drop (p.off + i * 9)).take 9 = stepCells l[i] := by
  rcases h with ⟨⟨o, h1⟩, h2, _⟩ | ⟨p, c, row, own, u, h1, h2, h3, h4, h5, h6⟩
  · omega
  · injection h1 with h1 _ _
    refine ⟨p, row, h1, AW.row_of h3, by omega, ?_⟩
    rw [← flat_get l i hi, h6, ← List.drop_drop, List.drop_take, List.take_take]
    congr 1
    omega

set_option maxHeartbeats 1000000 in
theorem refSteps_call (hG : GOK) (v : Value) (l : List StepV) (A : AW) (h : IsSteps A v l) (hl : l.length < 2^30) (hr : ∀ s ∈ l, s.Ok) :
    ACall Tryd.prog 10 [v] A (fun v A' => v = .string (bs (textF l)) ∧ A = A') := by
  refine acall_intro Tryd.func10 rfl (by kernel_rfl) fun hw => ?_
  obtain ⟨o, c, rfl, _⟩ := h.form
  repeat' (first
  | (refine lwc fun R hR => ?_; simp [wrap_i64, wrap_u64]; try simp (disch := omega) only [if_pos, if_neg, wrap_i64, wrap_u64])
  | (refine hR _ _ ?_; clear hR R) | (refine hK _ _ ?_; clear hK K) | refine lwn ?_ | refine lr ?_ | refine la ?_
  | refine wn fun K hK => ?_
  | simp only [wS]
  | refine wb ?_ | refine wr ?_ | refine wk ?_ | refine we ?_ | refine ws ?_ | refine wq ?_
  | (refine wc rfl (fun hc => ?_) (fun hc => ?_) <;> (try simp at hc) <;> (try omega))
  | (refine ib (fun hc => ?_) (fun hc => ?_) <;> (try omega) <;> (try simp (disch := omega) only [if_pos, if_neg])))
  refine awp_loop (fun k fr A' => A = A' ∧ ∃ (j : Nat), k = l.length - j ∧ j ≤ l.length ∧ fr 0 = .slice o l.length c ∧ fr 4 = .int .i64 j ∧ fr 3 = .string (bs (textF (l.take j)))) l.length ?_ ?_
  · exact ⟨rfl, 0, by simp, by simp, rfl, rfl, rfl⟩
  · rintro k fr A' ⟨rfl, j, rfl, hj, g0, g4, g3⟩
    by_cases hlt : j < l.length
    case neg =>
      have hjl : j = l.length := by omega
      rw [hjl, List.take_length] at g3
      repeat' (first
      | (refine lwc fun R hR => ?_; simp [wrap_i64, wrap_u64, g0, g4, g3, hlt]; try simp (disch := omega) only [if_pos, if_neg, wrap_i64, wrap_u64])
      | (refine hR _ _ ?_; clear hR R) | (refine hK _ _ ?_; clear hK K) | refine lwn ?_ | refine lr ?_ | refine la ?_
      | refine wn fun K hK => ?_
      | simp only [wS]
      | refine wb ?_ | refine wr ?_ | refine wk ?_ | refine we ?_ | refine ws ?_ | refine wq ?_
      | (refine wc rfl (fun hc => ?_) (fun hc => ?_) <;> (try simp at hc) <;> (try omega))
      | (refine ib (fun hc => ?_) (fun hc => ?_) <;> (try omega) <;> (try simp (disch := omega) only [if_pos, if_neg])))
      simp
    have hj1 : IntKind.i64.wrap ((j : Int) + 1) = ((j + 1 : Nat) : Int) := wrap_i64 (by omega) (by omega)
    obtain ⟨p, row, rfl, hrow, hle, hcell⟩ := h.at hlt
    have hok := hr _ (List.getElem_mem hlt)
    have hlen1 := line_len _ hok
    have hlen2 := text_len (l.take j) fun s hs => hr s (List.mem_of_mem_take hs)
    rw [List.length_take] at hlen2
    have hlen3 : min j l.length * 199 ≤ 2 ^ 40 := by
      have : min j l.length ≤ l.length := Nat.min_le_right _ _
      omega
    have e3 : textF (l.take (j + 1)) = textF (l.take j) ++ (lineF l[j] ++ [10]) := by
      rw [List.take_add_one, List.getElem?_eq_getElem hlt]
      exact textF_app _ _
    have hline := fun A => refLine_call hG l[j] hok A
    simp only [stepVal] at hline
    repeat' (first
    | (refine lwc fun R hR => ?_; simp [wrap_i64, wrap_u64, g0, g4, g3, hlt, hrow, hle, hcell, hj1, bs_size, bs_app, mk_bs]; try simp (disch := omega) only [if_pos, if_neg, wrap_i64, wrap_u64])
    | (refine hR _ _ ?_; clear hR R) | (refine hK _ _ ?_; clear hK K) | refine lwn ?_ | refine lr ?_ | refine la ?_
    | refine wn fun K hK => ?_
    | simp only [wS]
    | (refine callK (hline _) ?_; rintro _ _ ⟨rfl, rfl⟩ _ _)
    | refine wb ?_ | refine wr ?_ | refine wk ?_ | refine we ?_ | refine ws ?_ | refine wq ?_
    | (refine wc rfl (fun hc => ?_) (fun hc => ?_) <;> (try simp at hc) <;> (try omega))
    | (refine ib (fun hc => ?_) (fun hc => ?_) <;> (try omega) <;> (try simp (disch := omega) only [if_pos, if_neg])))
    refine ⟨l.length - (j + 1), by omega, rfl, j + 1, rfl, by omega, ?_, ?_, ?_⟩
    · simp [g0]
    · simp
    · simp [e3]

end Go.Stx
