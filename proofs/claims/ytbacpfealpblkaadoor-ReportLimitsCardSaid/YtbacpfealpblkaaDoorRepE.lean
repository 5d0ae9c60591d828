/-
  Texts cut into words and lines by the reference; steps compared.
-/
import Derived.Test.YtbacpfealpblkaaDoorRepD
namespace Go.Stx
open Go Go.Proofs
def oRepE_0 : List (Nat × Nat) := [(0, 0), (1, 0), (2, 0), (3, 0), (4, 0), (5, 0), (6, 0), (7, 0), (8, 0)]
attribute [local irreducible] AWP LWalk ACall ARounds lops nops
set_option linter.unusedVariables false
set_option linter.unusedSimpArgs false
set_option linter.unusedSectionVars false
set_option maxRecDepth 20000

theorem bs_extract (s : BS) (l h : Nat) : (bs s).extract l h = bs ((s.take h).drop l) := by
  apply ByteArray.ext
  simp [bs, List.extract_eq_take_drop, List.drop_take]
theorem bs_get (s : BS) (i : Nat) : (bs s)[i]? = s[i]? := by
  simp [bs, getElem?_def]
  rfl

theorem bs_elem (s : BS) (i : Nat) (h : i < (bs s).size) : (bs s)[i]'h = s[i]'(by rw [bs_size] at h; exact h) := rfl
theorem bs_get_at {s : BS} {i : Nat} {x : UInt8} (h : s[i]? = some x) : (bs s)[i]? = some x := by rw [bs_get]; exact h

theorem cut_head (c : UInt8) {s : BS} {f i : Nat} (hfi : f ≤ i) (hi : s[i]? = some c) (hno : c ∉ (s.drop f).take (i - f)) : pieces c (s.drop f) = (s.take i).drop f :: pieces c (s.drop (i + 1)) := by
  have hlt := (List.getElem?_eq_some_iff.1 hi).1
  have hc := (List.getElem?_eq_some_iff.1 hi).2
  have e : s.drop f = (s.take i).drop f ++ c :: s.drop (i + 1) := by
    have h1 : s.drop i = c :: s.drop (i + 1) := by rw [← hc]; exact List.drop_eq_getElem_cons hlt
    rw [← h1, List.drop_take]
    have h2 : s.drop i = (s.drop f).drop (i - f) := by rw [List.drop_drop]; congr 1; omega
    rw [h2, List.take_append_drop]
  have hno' : c ∉ (s.take i).drop f := by rw [List.drop_take]; exact hno
  conv => lhs; rw [e]
  exact pieces_hit c _ _ hno'

theorem cut_lines {s : BS} {f i : Nat} (hfi : f ≤ i) (hi : s[i]? = some 10) (hno : (10 : UInt8) ∉ (s.drop f).take (i - f)) : linesOf (s.drop f) = (s.take i).drop f :: linesOf (s.drop (i + 1)) := by
  have hlt := (List.getElem?_eq_some_iff.1 hi).1
  have hc := (List.getElem?_eq_some_iff.1 hi).2
  have e : s.drop f = (s.take i).drop f ++ 10 :: s.drop (i + 1) := by
    have h1 : s.drop i = 10 :: s.drop (i + 1) := by
      have := List.drop_eq_getElem_cons hlt
      rw [hc] at this
      exact this
    rw [← h1, List.drop_take]
    have h2 : s.drop i = (s.drop f).drop (i - f) := by rw [List.drop_drop]; congr 1; omega
    rw [h2, List.take_append_drop]
  have hno' : (10 : UInt8) ∉ (s.take i).drop f := by rw [List.drop_take]; exact hno
  conv => lhs; rw [e]
  exact lines_hit _ _ hno'

theorem no_next {c x : UInt8} {s : BS} {f i : Nat} (hfi : f ≤ i) (hi : s[i]? = some x) (hne : x ≠ c) (hno : c ∉ (s.drop f).take (i - f)) : c ∉ (s.drop f).take (i + 1 - f) := by
  rw [show i + 1 - f = (i - f) + 1 by omega, List.take_add_one, List.getElem?_drop, show f + (i - f) = i by omega, hi]
  simp only [Option.toList, List.mem_append, List.mem_singleton, not_or]
  exact ⟨hno, fun e => hne e.symm⟩

variable [Gl]

set_option maxHeartbeats 2000000 in
theorem words_call (s : BS) (A : AW) (hl : s.length < 2^38) :
    ACall Tryd.prog 32 [.string (bs s)] A (fun u A' => OwnSl A.next A' 1 u (pieces 32 s).length (strs (pieces 32 s)) ∧ A.le A') := by
  refine acall_intro Tryd.func32 rfl (by kernel_rfl) fun hw => ?_
  repeat' (first
  | (refine lwc fun R hR => ?_; simp [wrap_i64, wrap_u64]; try simp (disch := omega) only [if_pos, if_neg, wrap_i64, wrap_u64])
  | (refine hR _ _ ?_; clear hR R) | (refine hK _ _ ?_; clear hK K) | refine lwn ?_ | refine lr ?_ | refine la ?_
  | refine wn fun K hK => ?_
  | simp only [wS]
  | refine wb ?_ | refine wr ?_ | refine wk ?_ | refine we ?_ | refine ws ?_ | refine wq ?_
  | (refine wc rfl (fun hc => ?_) (fun hc => ?_) <;> (try simp at hc) <;> (try omega))
  | (refine ib (fun hc => ?_) (fun hc => ?_) <;> (try omega) <;> (try simp (disch := omega) only [if_pos, if_neg])))
  refine awp_loop (fun k fr A' => ∃ (i f : Nat) (u : Value) (P : List BS), k = s.length + 1 - i ∧ i ≤ s.length + 1 ∧ f ≤ i ∧ fr 0 = .string (bs s) ∧ fr 3 = u ∧ fr 4 = .int .i64 f ∧ fr 5 = .int .i64 i ∧
    OwnSl A.next A' 1 u P.length (strs P) ∧ P.length ≤ i ∧ A.le A' ∧ A'.Wf ∧ (i ≤ s.length → (32 : UInt8) ∉ (s.drop f).take (i - f) ∧ pieces 32 s = P ++ pieces 32 (s.drop f)) ∧ (i = s.length + 1 → pieces 32 s = P)) (s.length + 1) ?_ ?_
  · exact ⟨0, 0, _, [], by simp, by simp, by simp, rfl, rfl, rfl, rfl, OwnSl.nil _ _ _, by simp, AW.le.refl A, hw, by simp, by omega⟩
  · rintro k fr A' ⟨i, f, u, P, rfl, hi, hfi, g0, rfl, g4, g5, hown, hPl, hle, hw', hin, hout⟩
    by_cases hend : i = s.length + 1
    · have e := hout hend
      subst hend
      have hgt : ¬ ((s.length : Int) + 1 ≤ s.length) := by omega
      repeat' (first
      | (refine lwc fun R hR => ?_; simp [wrap_i64, wrap_u64, g0, g4, g5, bs_size, hgt]; try simp (disch := omega) only [if_pos, if_neg, wrap_i64, wrap_u64])
      | (refine hR _ _ ?_; clear hR R) | (refine hK _ _ ?_; clear hK K) | refine lwn ?_ | refine lr ?_ | refine la ?_
      | refine wn fun K hK => ?_
      | simp only [wS]
      | refine wb ?_ | refine wr ?_ | refine wk ?_ | refine we ?_ | refine ws ?_ | refine wq ?_
      | (refine wc rfl (fun hc => ?_) (fun hc => ?_) <;> (try simp at hc) <;> (try omega))
      | (refine ib (fun hc => ?_) (fun hc => ?_) <;> (try omega) <;> (try simp (disch := omega) only [if_pos, if_neg])))
      rw [← e] at hown
      simpa using ⟨hown, hle⟩
    have hi' : i ≤ s.length := by omega
    obtain ⟨hno, hpc⟩ := hin hi'
    have hj1 : IntKind.i64.wrap ((i : Int) + 1) = ((i + 1 : Nat) : Int) := wrap_i64 (by omega) (by omega)
    obtain ⟨v', A2, e1, e2, e3, e4, e5⟩ := append_one (size := 1) (P := Tryd.prog) (t := 33) [.string (bs ((s.take i).drop f))] Tryd.underlying33 Tryd.info9 Tryd.zero9 rfl rfl (by decide) rfl rfl hown (by omega) (by simp) hle.next hw'
    have hstr : strs P ++ [.string (bs ((s.take i).drop f))] = strs (P ++ [(s.take i).drop f]) := by simp [strs]
    rw [hstr] at e2
    have hle2 := e3 A (Nat.le_refl _) hle
    by_cases hil : i = s.length
    · subst hil
      rw [List.take_length] at e1 e2
      repeat' (first
      | (refine lwc fun R hR => ?_; simp [wrap_i64, wrap_u64, g0, g4, g5, bs_size, bs_extract, hj1, e1, hfi]; try simp (disch := omega) only [if_pos, if_neg, wrap_i64, wrap_u64])
      | (refine hR _ _ ?_; clear hR R) | (refine hK _ _ ?_; clear hK K) | refine lwn ?_ | refine lr ?_ | refine la ?_
      | refine wn fun K hK => ?_
      | simp only [wS]
      | refine wb ?_ | refine wr ?_ | refine wk ?_ | refine we ?_ | refine ws ?_ | refine wq ?_
      | (refine wc rfl (fun hc => ?_) (fun hc => ?_) <;> (try simp at hc) <;> (try omega))
      | (refine ib (fun hc => ?_) (fun hc => ?_) <;> (try omega) <;> (try simp (disch := omega) only [if_pos, if_neg])))
      refine ⟨0, by omega, s.length + 1, s.length + 1, v', P ++ [s.drop f], by omega, by omega, by omega, ?_, ?_, ?_, ?_, by simpa using e2, by simp; omega, hle2, e4, by omega, fun _ => ?_⟩
      · simp [g0]
      · simp
      · simp
      · simp
      · rw [hpc, pieces_none]
        have := hno
        rwa [List.take_of_length_le (by simp)] at this
    · have hlt : i < s.length := by omega
      have hx : s[i]? = some s[i] := List.getElem?_eq_getElem hlt
      by_cases h32 : s[i] = 32
      · have hxn : ((s[i].toNat : Int) = 32) := by rw [h32]; rfl
        repeat' (first
        | (refine lwc fun R hR => ?_; simp [wrap_i64, wrap_u64, g0, g4, g5, bs_size, bs_extract, hj1, e1, hfi, hi', hil, bs_elem, hlt, hxn]; try simp (disch := omega) only [if_pos, if_neg, wrap_i64, wrap_u64])
        | (refine hR _ _ ?_; clear hR R) | (refine hK _ _ ?_; clear hK K) | refine lwn ?_ | refine lr ?_ | refine la ?_
        | refine wn fun K hK => ?_
        | simp only [wS]
        | refine wb ?_ | refine wr ?_ | refine wk ?_ | refine we ?_ | refine ws ?_ | refine wq ?_
        | (refine wc rfl (fun hc => ?_) (fun hc => ?_) <;> (try simp at hc) <;> (try omega))
        | (refine ib (fun hc => ?_) (fun hc => ?_) <;> (try omega) <;> (try simp (disch := omega) only [if_pos, if_neg])))
        refine ⟨s.length + 1 - (i + 1), by omega, i + 1, i + 1, v', P ++ [(s.take i).drop f], by omega, by omega, by omega, ?_, ?_, ?_, ?_, by simpa using e2, by simp; omega, hle2, e4, fun _ => ⟨by simp, ?_⟩, by omega⟩
        · simp [g0]
        · simp
        · simp
        · simp
        · rw [hpc, cut_head 32 hfi (by rw [hx, h32]) hno]
          simp
      · have hxn : ¬ ((s[i].toNat : Int) = 32) := fun e => h32 (UInt8.toNat_inj.1 (by have : (32 : UInt8).toNat = 32 := rfl; omega))
        repeat' (first
        | (refine lwc fun R hR => ?_; simp [wrap_i64, wrap_u64, g0, g4, g5, bs_size, bs_extract, hj1, e1, hfi, hi', hil, bs_elem, hlt, hxn]; try simp (disch := omega) only [if_pos, if_neg, wrap_i64, wrap_u64])
        | (refine hR _ _ ?_; clear hR R) | (refine hK _ _ ?_; clear hK K) | refine lwn ?_ | refine lr ?_ | refine la ?_
        | refine wn fun K hK => ?_
        | simp only [wS]
        | refine wb ?_ | refine wr ?_ | refine wk ?_ | refine we ?_ | refine ws ?_ | refine wq ?_
        | (refine wc rfl (fun hc => ?_) (fun hc => ?_) <;> (try simp at hc) <;> (try omega))
        | (refine ib (fun hc => ?_) (fun hc => ?_) <;> (try omega) <;> (try simp (disch := omega) only [if_pos, if_neg])))
        refine ⟨s.length + 1 - (i + 1), by omega, i + 1, f, fr 3, P, by omega, by omega, by omega, ?_, ?_, ?_, ?_, hown, by omega, hle, hw', fun _ => ⟨no_next hfi hx h32 hno, hpc⟩, by omega⟩
        · simp [g0]
        · simp
        · simp [g4]
        · simp

set_option maxHeartbeats 2000000 in
theorem lines_call (s : BS) (A : AW) (hl : s.length < 2^38) :
    ACall Tryd.prog 21 [.string (bs s)] A (fun u A' => OwnSl A.next A' 1 u (linesOf s).length (strs (linesOf s)) ∧ A.le A') := by
  refine acall_intro Tryd.func21 rfl (by kernel_rfl) fun hw => ?_
  repeat' (first
  | (refine lwc fun R hR => ?_; simp [wrap_i64, wrap_u64]; try simp (disch := omega) only [if_pos, if_neg, wrap_i64, wrap_u64])
  | (refine hR _ _ ?_; clear hR R) | (refine hK _ _ ?_; clear hK K) | refine lwn ?_ | refine lr ?_ | refine la ?_
  | refine wn fun K hK => ?_
  | simp only [wS]
  | refine wb ?_ | refine wr ?_ | refine wk ?_ | refine we ?_ | refine ws ?_ | refine wq ?_
  | (refine wc rfl (fun hc => ?_) (fun hc => ?_) <;> (try simp at hc) <;> (try omega))
  | (refine ib (fun hc => ?_) (fun hc => ?_) <;> (try omega) <;> (try simp (disch := omega) only [if_pos, if_neg])))
  refine awp_loop (fun k fr A' => ∃ (i f : Nat) (u : Value) (P : List BS), k = s.length - i ∧ i ≤ s.length ∧ f ≤ i ∧ fr 0 = .string (bs s) ∧ fr 3 = u ∧ fr 4 = .int .i64 f ∧ fr 5 = .int .i64 i ∧
    OwnSl A.next A' 1 u P.length (strs P) ∧ P.length ≤ i ∧ A.le A' ∧ A'.Wf ∧ (10 : UInt8) ∉ (s.drop f).take (i - f) ∧ linesOf s = P ++ linesOf (s.drop f)) s.length ?_ ?_
  · exact ⟨0, 0, _, [], by simp, by simp, by simp, rfl, rfl, rfl, rfl, OwnSl.nil _ _ _, by simp, AW.le.refl A, hw, by simp, by simp⟩
  · rintro k fr A' ⟨i, f, u, P, rfl, hi, hfi, g0, rfl, g4, g5, hown, hPl, hle, hw', hno, hpc⟩
    have hj1 : IntKind.i64.wrap ((i : Int) + 1) = ((i + 1 : Nat) : Int) := wrap_i64 (by omega) (by omega)
    obtain ⟨v', A2, e1, e2, e3, e4, e5⟩ := append_one (size := 1) (P := Tryd.prog) (t := 33) [.string (bs ((s.take i).drop f))] Tryd.underlying33 Tryd.info9 Tryd.zero9 rfl rfl (by decide) rfl rfl hown (by omega) (by simp) hle.next hw'
    have hstr : strs P ++ [.string (bs ((s.take i).drop f))] = strs (P ++ [(s.take i).drop f]) := by simp [strs]
    rw [hstr] at e2
    have hle2 := e3 A (Nat.le_refl _) hle
    by_cases hil : i = s.length
    · subst hil
      rw [List.take_length] at e1 e2
      rw [List.take_of_length_le (by simp)] at hno
      by_cases hfl : f < s.length
      · repeat' (first
      | (refine lwc fun R hR => ?_; simp [wrap_i64, wrap_u64, g0, g4, g5, bs_size, bs_extract, e1, hfi, hfl]; try simp (disch := omega) only [if_pos, if_neg, wrap_i64, wrap_u64])
      | (refine hR _ _ ?_; clear hR R) | (refine hK _ _ ?_; clear hK K) | refine lwn ?_ | refine lr ?_ | refine la ?_
      | refine wn fun K hK => ?_
      | simp only [wS]
      | refine wb ?_ | refine wr ?_ | refine wk ?_ | refine we ?_ | refine ws ?_ | refine wq ?_
      | (refine wc rfl (fun hc => ?_) (fun hc => ?_) <;> (try simp at hc) <;> (try omega))
      | (refine ib (fun hc => ?_) (fun hc => ?_) <;> (try omega) <;> (try simp (disch := omega) only [if_pos, if_neg])))
        have e : linesOf s = P ++ [s.drop f] := by rw [hpc, lines_none _ hno (by intro e; have := congrArg List.length e; simp at this; omega)]
        rw [e]
        simpa using ⟨e2, hle2⟩
      · repeat' (first
      | (refine lwc fun R hR => ?_; simp [wrap_i64, wrap_u64, g0, g4, g5, bs_size, bs_extract, e1, hfi, hfl]; try simp (disch := omega) only [if_pos, if_neg, wrap_i64, wrap_u64])
      | (refine hR _ _ ?_; clear hR R) | (refine hK _ _ ?_; clear hK K) | refine lwn ?_ | refine lr ?_ | refine la ?_
      | refine wn fun K hK => ?_
      | simp only [wS]
      | refine wb ?_ | refine wr ?_ | refine wk ?_ | refine we ?_ | refine ws ?_ | refine wq ?_
      | (refine wc rfl (fun hc => ?_) (fun hc => ?_) <;> (try simp at hc) <;> (try omega))
      | (refine ib (fun hc => ?_) (fun hc => ?_) <;> (try omega) <;> (try simp (disch := omega) only [if_pos, if_neg])))
        have e : linesOf s = P := by rw [hpc, List.drop_of_length_le (by omega)]; simp [linesOf]
        rw [e]
        simpa using ⟨hown, hle⟩
    · have hlt : i < s.length := by omega
      have hx : s[i]? = some s[i] := List.getElem?_eq_getElem hlt
      by_cases h32 : s[i] = 10
      · have hxn : ((s[i].toNat : Int) = 10) := by rw [h32]; rfl
        repeat' (first
        | (refine lwc fun R hR => ?_; simp [wrap_i64, wrap_u64, g0, g4, g5, bs_size, bs_extract, hj1, e1, hfi, hi, hil, bs_elem, hlt, hxn]; try simp (disch := omega) only [if_pos, if_neg, wrap_i64, wrap_u64])
        | (refine hR _ _ ?_; clear hR R) | (refine hK _ _ ?_; clear hK K) | refine lwn ?_ | refine lr ?_ | refine la ?_
        | refine wn fun K hK => ?_
        | simp only [wS]
        | refine wb ?_ | refine wr ?_ | refine wk ?_ | refine we ?_ | refine ws ?_ | refine wq ?_
        | (refine wc rfl (fun hc => ?_) (fun hc => ?_) <;> (try simp at hc) <;> (try omega))
        | (refine ib (fun hc => ?_) (fun hc => ?_) <;> (try omega) <;> (try simp (disch := omega) only [if_pos, if_neg])))
        refine ⟨s.length - (i + 1), by omega, i + 1, i + 1, v', P ++ [(s.take i).drop f], by omega, by omega, by omega, ?_, ?_, ?_, ?_, by simpa using e2, by simp; omega, hle2, e4, by simp, ?_⟩
        · simp [g0]
        · simp
        · simp
        · simp
        · rw [hpc, cut_lines hfi (by rw [hx, h32]) hno]
          simp
      · have hxn : ¬ ((s[i].toNat : Int) = 10) := fun e => h32 (UInt8.toNat_inj.1 (by have : (10 : UInt8).toNat = 10 := rfl; omega))
        repeat' (first
        | (refine lwc fun R hR => ?_; simp [wrap_i64, wrap_u64, g0, g4, g5, bs_size, bs_extract, hj1, e1, hfi, hi, hil, bs_elem, hlt, hxn]; try simp (disch := omega) only [if_pos, if_neg, wrap_i64, wrap_u64])
        | (refine hR _ _ ?_; clear hR R) | (refine hK _ _ ?_; clear hK K) | refine lwn ?_ | refine lr ?_ | refine la ?_
        | refine wn fun K hK => ?_
        | simp only [wS]
        | refine wb ?_ | refine wr ?_ | refine wk ?_ | refine we ?_ | refine ws ?_ | refine wq ?_
        | (refine wc rfl (fun hc => ?_) (fun hc => ?_) <;> (try simp at hc) <;> (try omega))
        | (refine ib (fun hc => ?_) (fun hc => ?_) <;> (try omega) <;> (try simp (disch := omega) only [if_pos, if_neg])))
        refine ⟨s.length - (i + 1), by omega, i + 1, f, fr 3, P, by omega, by omega, by omega, ?_, ?_, ?_, ?_, hown, by omega, hle, hw', no_next hfi hx h32 hno, hpc⟩
        · simp [g0]
        · simp
        · simp [g4]
        · simp

theorem StepV.eq9 {x y : StepV} (c1 : x.t = y.t) (c2 : x.p = y.p) (c3 : x.a = y.a) (c4 : x.k = y.k) (c5 : x.c = y.c) (c6 : x.i = y.i) (c7 : (x.g : Int) = y.g) (c8 : (x.u : Int) = y.u) (c9 : x.d = y.d) : x = y := by
  cases x; cases y
  simp only at *
  subst c1; subst c2; subst c3; subst c4; subst c5; subst c6; subst c9
  have e1 := Int.ofNat.inj c7
  have e2 := Int.ofNat.inj c8
  subst e1; subst e2
  rfl

theorem stepEq (x y : StepV) : ((decide (x.t = y.t)) && (decide (x.p = y.p)) && (decide (x.a = y.a)) && ((decide (x.k = y.k)) && (decide (x.c = y.c)) && (decide (x.i = y.i)) && (decide (x.g = y.g)) && (decide (x.u = y.u)) && (x.d == y.d))) = decide (x = y) := by
  cases x; cases y
  rw [Bool.eq_iff_iff, decide_eq_true_iff]
  simp [and_assoc]

set_option maxHeartbeats 2000000 in
theorem ksteps_call (va vb : Value) (a b : List StepV) (A : AW) (ha : IsSteps A va a) (hb : IsSteps A vb b) (hla : a.length < 2^62) :
    ACall Tryd.prog 12 [va, vb] A (fun v A' => v = .bool (decide (a = b)) ∧ A = A') := by
  refine acall_intro Tryd.func12 rfl (by kernel_rfl) fun hw => ?_
  obtain ⟨oa, ca, rfl, _⟩ := ha.form
  obtain ⟨ob, cb, rfl, _⟩ := hb.form
  repeat' (first
  | (refine lwc fun R hR => ?_; simp [wrap_i64, wrap_u64]; try simp (disch := omega) only [if_pos, if_neg, wrap_i64, wrap_u64])
  | (refine hR _ _ ?_; clear hR R) | (refine hK _ _ ?_; clear hK K) | refine lwn ?_ | refine lr ?_ | refine la ?_
  | refine wn fun K hK => ?_
  | simp only [wS, oRepE_0]
  | refine wl Tryd.mx oRepE_0 (by decide +kernel) fun K hK => ?_
  | refine wb ?_ | refine wr ?_ | refine wk ?_ | refine we ?_ | refine ws ?_ | refine wq ?_
  | (refine wc rfl (fun hc => ?_) (fun hc => ?_) <;> (try simp at hc) <;> (try omega))
  | (refine ib (fun hc => ?_) (fun hc => ?_) <;> (try omega) <;> (try simp (disch := omega) only [if_pos, if_neg])))
  · simp
    intro e
    subst e
    simp at hc
  · have hlen : a.length = b.length := by omega
    refine awp_loop (fun k fr A' => A = A' ∧ ∃ i : Nat, k = a.length - i ∧ i ≤ a.length ∧ fr 0 = .slice oa a.length ca ∧ fr 1 = .slice ob b.length cb ∧ fr 5 = .int .i64 i ∧ ∀ j, j < i → a[j]? = b[j]?) a.length ?_ ?_
    · refine ⟨rfl, 0, by simp, by simp, rfl, rfl, rfl, by simp⟩
    · rintro k fr A' ⟨rfl, i, rfl, hi, h0, h1, h5, hj⟩
      by_cases hlt : i < a.length
      · obtain ⟨p, row, rfl, hrow, hle1, hcell⟩ := ha.at hlt
        obtain ⟨q, row', rfl, hrow', hle2, hcell'⟩ := hb.at (i := i) (by omega)
        have hltb : i < b.length := by omega
        have hwi : IntKind.i64.wrap ((i : Int) + 1) = ((i + 1 : Nat) : Int) := wrap_i64 (by omega) (by omega)
        have heq := stepEq a[i] b[i]
        simp only [stepCells] at hcell hcell'
        refine awp_seq ?_
        repeat' (first
        | (refine lwc fun R hR => ?_; simp [wrap_i64, wrap_u64, h0, h1, h5, hrow, hrow', hcell, hcell', hle1, hle2, hlt, hltb, hwi, aequal, aeqFields, heq]; try simp (disch := omega) only [if_pos, if_neg, wrap_i64, wrap_u64])
        | (refine hR _ _ ?_; clear hR R) | (refine hK _ _ ?_; clear hK K) | refine lwn ?_ | refine lr ?_ | refine la ?_
        | refine wn fun K hK => ?_
        | simp only [wS, oRepE_0]
        | refine wl Tryd.mx oRepE_0 (by decide +kernel) fun K hK => ?_
        | refine wb ?_ | refine wr ?_ | refine wk ?_ | refine we ?_ | refine ws ?_ | refine wq ?_
        | (refine wc rfl (fun hc => ?_) (fun hc => ?_) <;> (try simp at hc) <;> (try omega))
        | (refine ib (fun hc => ?_) (fun hc => ?_) <;> (try omega) <;> (try simp (disch := omega) only [if_pos, if_neg])))
        · simp [ABlock, AThen]
          intro e
          subst e
          simp at hc
        · have e : a[i] = b[i] := by
            obtain ⟨c1, c2, c3, c4, c5, c6, c7, c8, c9⟩ := hc
            exact StepV.eq9 c1 c2 c3 c4 c5 c6 c7 c8 c9
          refine ⟨a.length - (i + 1), by omega, rfl, i + 1, rfl, by omega, ?_, ?_, ?_, ?_⟩
          · simp [h0]
          · simp [h1]
          · simp
          · intro j hj'
            by_cases e' : j = i
            · subst e'
              rw [List.getElem?_eq_getElem hlt, List.getElem?_eq_getElem hltb, e]
            · exact hj j (by omega)
      · refine awp_seq ?_
        repeat' (first
        | (refine lwc fun R hR => ?_; simp [wrap_i64, wrap_u64, h0, h1, h5, hlt]; try simp (disch := omega) only [if_pos, if_neg, wrap_i64, wrap_u64])
        | (refine hR _ _ ?_; clear hR R) | (refine hK _ _ ?_; clear hK K) | refine lwn ?_ | refine lr ?_ | refine la ?_
        | refine wn fun K hK => ?_
        | simp only [wS, oRepE_0]
        | refine wl Tryd.mx oRepE_0 (by decide +kernel) fun K hK => ?_
        | refine wb ?_ | refine wr ?_ | refine wk ?_ | refine we ?_ | refine ws ?_ | refine wq ?_
        | (refine wc rfl (fun hc => ?_) (fun hc => ?_) <;> (try simp at hc) <;> (try omega))
        | (refine ib (fun hc => ?_) (fun hc => ?_) <;> (try omega) <;> (try simp (disch := omega) only [if_pos, if_neg])))
        have e : a = b := by
          apply List.ext_getElem?
          intro j
          by_cases hj' : j < i
          · exact hj j hj'
          · rw [List.getElem?_eq_none (by omega), List.getElem?_eq_none (by omega)]
        simp [e]

end Go.Stx
