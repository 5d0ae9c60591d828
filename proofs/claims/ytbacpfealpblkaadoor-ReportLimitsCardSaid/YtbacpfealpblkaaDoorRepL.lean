/-
  The statements about spoiled texts and the limit of bytes.
-/
import Derived.Test.YtbacpfealpblkaaDoorRepK
namespace Go.Stx
open Go Go.Proofs
def oRepL_0 : List (Nat × Nat) := [(0, 0), (1, 0), (2, 0), (3, 0), (4, 0), (5, 0), (6, 0), (7, 0), (8, 0), (9, 0), (10, 0), (11, 0)]
attribute [local irreducible] TW ltree AWP LWalk ACall ARounds lops nops
set_option linter.unusedVariables false
set_option linter.unusedSimpArgs false
set_option linter.unusedSectionVars false
set_option maxRecDepth 20000

def placeF (a n : Int) : Int := IntKind.u64.wrap a % n

theorem u64_wrap_range (a : Int) : 0 ≤ IntKind.u64.wrap a ∧ IntKind.u64.wrap a < 18446744073709551616 := by
  simp only [IntKind.wrap, IntKind.bits, IntKind.signed, Bool.false_and, Bool.false_eq_true, if_false]
  omega

theorem placeF_range (a n : Int) (hn : 0 < n) : 0 ≤ placeF a n ∧ placeF a n < n := ⟨Int.emod_nonneg _ (by omega), Int.emod_lt_of_pos _ hn⟩

theorem text_as (x : ByteArray) : x = bs x.data.toList := rfl

variable [Gl]

theorem place_call (a n : Int) (A : AW) (hn : 0 < n) (hn2 : n ≤ 9223372036854775807) :
    ACall Tryd.prog 14 [.int .i64 a, .int .i64 n] A (fun v A' => v = .int .i64 (placeF a n) ∧ A = A') := by
  refine acall_intro Tryd.func14 rfl (by kernel_rfl) fun hw => ?_
  have hw1 : IntKind.u64.wrap n = n := wrap_u64 (by omega) (by omega)
  have hne : n ≠ 0 := by omega
  obtain ⟨h1, h2⟩ := u64_wrap_range a
  obtain ⟨h3, h4⟩ := placeF_range a n hn
  have hr : (IntKind.u64.wrap a).tmod n = placeF a n := Int.tmod_eq_emod_of_nonneg h1
  have hw2 : IntKind.i64.wrap (placeF a n) = placeF a n := wrap_i64 (by omega) (by omega)
  repeat' (first
  | (refine lwc fun R hR => ?_; simp [wrap_i64, wrap_u64, hw1, hne, hr, hw2]; try simp (disch := omega) only [if_pos, if_neg, wrap_i64, wrap_u64])
  | (refine hR _ _ ?_; clear hR R) | (refine hK _ _ ?_; clear hK K) | refine lwn ?_ | refine lr ?_ | refine la ?_
  | refine wn fun K hK => ?_
  | simp only [wS]
  | refine wb ?_ | refine wr ?_ | refine wk ?_ | refine we ?_ | refine ws ?_ | refine wq ?_
  | (refine wc rfl (fun hc => ?_) (fun hc => ?_) <;> (try simp at hc) <;> (try omega))
  | (refine ib (fun hc => ?_) (fun hc => ?_) <;> (try omega) <;> (try simp (disch := omega) only [if_pos, if_neg])))
  simp

theorem place_call' (a : Int) (n : Nat) (A : AW) (hn : 0 < n) (hn2 : n ≤ 1000000) :
    ACall Tryd.prog 14 [.int .i64 a, .int .i64 n] A (fun v A' => ∃ K : Nat, v = .int .i64 K ∧ K < n ∧ A = A') := by
  obtain ⟨h0, h1⟩ := placeF_range a n (by omega)
  refine (place_call a n A (by omega) (by omega)).mono ?_
  rintro v A' ⟨rfl, rfl⟩
  exact ⟨(placeF a n).toNat, by rw [Int.toNat_of_nonneg h0], by omega, rfl⟩

set_option maxHeartbeats 4000000 in
theorem spoiled_call (hG : GOK) (v : Value) (l : List StepV) (a b w : Int) (A : AW) (h : IsSteps A v l) (hr : ∀ s ∈ l, s.Ok) :
    ACall Tryd.prog 6 [v, .int .i64 a, .int .u8 b, .int .i64 w] A Yes := by
  refine acall_intro Tryd.func6 rfl (by kernel_rfl) fun hw => ?_
  obtain ⟨o, c, rfl, _⟩ := h.form
  by_cases hl : 20 < l.length
  · have hl' : (20 : Int) < l.length := by omega
    repeat' (first
    | (refine lwc fun R hR => ?_; simp [wrap_i64, wrap_u64, hl']; try simp (disch := omega) only [if_pos, if_neg, wrap_i64, wrap_u64])
    | (refine hR _ _ ?_; clear hR R) | (refine hK _ _ ?_; clear hK K) | refine lwn ?_ | refine lr ?_ | refine la ?_
    | (refine twc fun R hR => ?_; simp [wrap_i64, wrap_u64, hl']; try simp (disch := omega) only [if_pos, if_neg, wrap_i64, wrap_u64])
    | (refine tw2 (fun R hR => ?_) (fun R hR => ?_) <;> (simp [wrap_i64, wrap_u64, hl']; try simp (disch := omega) only [if_pos, if_neg, wrap_i64, wrap_u64]))
    | refine twn ?_
    | refine wn fun K hK => ?_
    | simp only [wS, oRepL_0]
    | simp only [ltree, tlop, slimG, Option.map_none, Option.map_some, List.getElem?_toArray, List.getElem?_cons_zero, List.getElem?_cons_succ, List.getD_cons_zero, List.getD_cons_succ, Option.bind_some]
    | refine wl Tryd.mx oRepL_0 (by decide +kernel) fun K hK => ?_
    | refine wt (fun _ => True) Tryd.mx [0, 2, 0, 2, 0, 2, 0, 0, 0] (.one 0 (.one 4 (.two 1 (.one 2 (.two 3 (.one 5 (.one 6 (.one 7 (.one 8 .nil)))) 5 (.one 3 (.one 6 (.one 7 (.one 8 .nil)))))) 5 (.one 1 (.one 2 (.one 3 (.one 6 (.one 7 (.one 8 .nil))))))))) (by decide +kernel) fun K hK => ?_
    | (refine callK (awake_call hG _) ?_; rintro _ _ ⟨rfl, rfl⟩ _ _)
    | refine wb ?_ | refine wr ?_ | refine wk ?_ | refine we ?_ | refine ws ?_ | refine wq ?_
    | (refine wc rfl (fun hc => ?_) (fun hc => ?_) <;> (try simp at hc) <;> (try omega))
    | (refine ib (fun hc => ?_) (fun hc => ?_) <;> (try omega) <;> (try simp (disch := omega) only [if_pos, if_neg])))
    simp [AThen, Yes]
  have hl' : ¬ (20 : Int) < l.length := by omega
  have hlen := text_len l hr
  generalize hT : textF l = T at *
  have hw1 : IntKind.i64.wrap ((T.length : Int) + 1) = (T.length : Int) + 1 := wrap_i64 (by omega) (by omega)
  have hst := refSteps_call hG _ l A h (by omega) hr
  rw [hT] at hst
  obtain ⟨hk0, hk1⟩ := placeF_range a ((T.length : Int) + 1) (by omega)
  obtain ⟨kk, hK⟩ : ∃ kk : Nat, placeF a ((T.length : Int) + 1) = kk := ⟨_, (Int.toNat_of_nonneg hk0).symm⟩
  obtain ⟨hj0, hj1⟩ := placeF_range w 6 (by omega)
  obtain ⟨J, hJ⟩ : ∃ J : Nat, placeF w 6 = J := ⟨_, (Int.toNat_of_nonneg hj0).symm⟩
  have hKT : (kk : Int) ≤ T.length := by omega
  have hJ6 : J < 6 := by omega
  have hJi : (J : Int) < 6 := by omega
  have hpa := fun A => place_call a ((T.length : Int) + 1) A (by omega) (by omega)
  have hpw := fun A => place_call w 6 A (by omega) (by omega)
  rw [hK] at hpa
  rw [hJ] at hpw
  have hab : abytes Tryd.prog (A.alloc (.cells [.int .u8 b] true 1)) 32 9 (.slice (some ⟨A.next, 0, none⟩) 1 1) = some (.string (bs [UInt8.ofNat b.toNat])) := by
    simp [abytes, AW.row_get, AW.alloc, au8s, strOfNums, bs]
  obtain ⟨ins, hins, hil⟩ : ∃ ins : BS, ([Value.string (bs [UInt8.ofNat b.toNat]), .string (bs [32]), .string (bs [48]), .string (bs [45]), .string (bs [10]), .string (bs [])] : List Value)[J]? = some (.string (bs ins)) ∧ ins.length ≤ 1 := by
    have : J = 0 ∨ J = 1 ∨ J = 2 ∨ J = 3 ∨ J = 4 ∨ J = 5 := by omega
    rcases this with rfl | rfl | rfl | rfl | rfl | rfl <;> exact ⟨_, rfl, by simp⟩
  repeat' (first
  | (refine lwc fun R hR => ?_; simp [wrap_i64, wrap_u64, hl', hw1, bs_size, hab, mk_bs, AW.row_get, hins, hJi]; try simp (disch := omega) only [if_pos, if_neg, wrap_i64, wrap_u64])
  | (refine hR _ _ ?_; clear hR R) | (refine hK _ _ ?_; clear hK K) | refine lwn ?_ | refine lr ?_ | refine la ?_
  | (refine twc fun R hR => ?_; simp [wrap_i64, wrap_u64, hl', hw1, bs_size, hab, mk_bs, AW.row_get, hins, hJi]; try simp (disch := omega) only [if_pos, if_neg, wrap_i64, wrap_u64])
  | (refine tw2 (fun R hR => ?_) (fun R hR => ?_) <;> (simp [wrap_i64, wrap_u64, hl', hw1, bs_size, hab, mk_bs, AW.row_get, hins, hJi]; try simp (disch := omega) only [if_pos, if_neg, wrap_i64, wrap_u64]))
  | refine twn ?_
  | refine wn fun K hK => ?_
  | simp only [wS, oRepL_0]
  | simp only [ltree, tlop, slimG, Option.map_none, Option.map_some, List.getElem?_toArray, List.getElem?_cons_zero, List.getElem?_cons_succ, List.getD_cons_zero, List.getD_cons_succ, Option.bind_some]
  | refine wl Tryd.mx oRepL_0 (by decide +kernel) fun K hK => ?_
  | refine wt (fun _ => True) Tryd.mx [0, 2, 0, 2, 0, 2, 0, 0, 0] (.one 0 (.one 4 (.two 1 (.one 2 (.two 3 (.one 5 (.one 6 (.one 7 (.one 8 .nil)))) 5 (.one 3 (.one 6 (.one 7 (.one 8 .nil)))))) 5 (.one 1 (.one 2 (.one 3 (.one 6 (.one 7 (.one 8 .nil))))))))) (by decide +kernel) fun K hK => ?_
  | (refine callK (hst) ?_; rintro _ _ ⟨rfl, rfl⟩ _ _)
  | (refine callK (hpa _) ?_; rintro _ _ ⟨rfl, rfl⟩ _ _)
  | (refine callK (hpw _) ?_; rintro _ _ ⟨rfl, rfl⟩ _ _)
  | (refine ⟨AW.le.refl _, ?_⟩)
  | refine wb ?_ | refine wr ?_ | refine wk ?_ | refine we ?_ | refine ws ?_ | refine wq ?_
  | (refine wc rfl (fun hc => ?_) (fun hc => ?_) <;> (try simp at hc) <;> (try omega))
  | (refine ib (fun hc => ?_) (fun hc => ?_) <;> (try omega) <;> (try simp (disch := omega) only [if_pos, if_neg])))
  all_goals (
    refine callK (place_call' _ 2 _ (by omega) (by omega)) ?_
    rintro _ _ ⟨Q, rfl, hQ, rfl⟩ _ _
    have hs1 : IntKind.i64.wrap ((T.length : Int) - kk) = (T.length : Int) - kk := wrap_i64 (by omega) (by omega)
    repeat' (first
    | (refine lwc fun R hR => ?_; simp [wrap_i64, wrap_u64, hs1, bs_size, hKT, bs_extract, bs_app]; try simp (disch := omega) only [if_pos, if_neg, wrap_i64, wrap_u64])
    | (refine hR _ _ ?_; clear hR R) | (refine hK _ _ ?_; clear hK K) | refine lwn ?_ | refine lr ?_ | refine la ?_
    | (refine twc fun R hR => ?_; simp [wrap_i64, wrap_u64, hs1, bs_size, hKT, bs_extract, bs_app]; try simp (disch := omega) only [if_pos, if_neg, wrap_i64, wrap_u64])
    | (refine tw2 (fun R hR => ?_) (fun R hR => ?_) <;> (simp [wrap_i64, wrap_u64, hs1, bs_size, hKT, bs_extract, bs_app]; try simp (disch := omega) only [if_pos, if_neg, wrap_i64, wrap_u64]))
    | refine twn ?_
    | refine wn fun K hK => ?_
    | simp only [wS, oRepL_0]
    | simp only [ltree, tlop, slimG, Option.map_none, Option.map_some, List.getElem?_toArray, List.getElem?_cons_zero, List.getElem?_cons_succ, List.getD_cons_zero, List.getD_cons_succ, Option.bind_some]
    | refine wl Tryd.mx oRepL_0 (by decide +kernel) fun K hK => ?_
    | refine wt (fun _ => True) Tryd.mx [0, 2, 0, 2, 0, 2, 0, 0, 0] (.one 0 (.one 4 (.two 1 (.one 2 (.two 3 (.one 5 (.one 6 (.one 7 (.one 8 .nil)))) 5 (.one 3 (.one 6 (.one 7 (.one 8 .nil)))))) 5 (.one 1 (.one 2 (.one 3 (.one 6 (.one 7 (.one 8 .nil))))))))) (by decide +kernel) fun K hK => ?_
    | refine wb ?_ | refine wr ?_ | refine wk ?_ | refine we ?_ | refine ws ?_ | refine wq ?_
    | (refine wc rfl (fun hc => ?_) (fun hc => ?_) <;> (try simp at hc) <;> (try omega))
    | (refine ib (fun hc => ?_) (fun hc => ?_) <;> (try omega) <;> (try simp (disch := omega) only [if_pos, if_neg])))
    have hbd : ∀ n : Nat, (T.take kk ++ (ins ++ T.drop n)).length < 2 ^ 29 := fun n => by
      simp only [List.length_append, List.length_take, List.length_drop]
      omega
    refine callK (parseSteps_call hG _ _ (Nat.lt_trans (hbd _) (by decide))) ?_
    rintro _ A2 ⟨u, rfl, hu, l2⟩ w2 n2
    repeat' (first
    | (refine lwc fun R hR => ?_; simp [wrap_i64, wrap_u64, hs1, bs_size, hKT, bs_extract, bs_app]; try simp (disch := omega) only [if_pos, if_neg, wrap_i64, wrap_u64])
    | (refine hR _ _ ?_; clear hR R) | (refine hK _ _ ?_; clear hK K) | refine lwn ?_ | refine lr ?_ | refine la ?_
    | (refine twc fun R hR => ?_; simp [wrap_i64, wrap_u64, hs1, bs_size, hKT, bs_extract, bs_app]; try simp (disch := omega) only [if_pos, if_neg, wrap_i64, wrap_u64])
    | (refine tw2 (fun R hR => ?_) (fun R hR => ?_) <;> (simp [wrap_i64, wrap_u64, hs1, bs_size, hKT, bs_extract, bs_app]; try simp (disch := omega) only [if_pos, if_neg, wrap_i64, wrap_u64]))
    | refine twn ?_
    | refine wn fun K hK => ?_
    | simp only [wS, oRepL_0]
    | simp only [ltree, tlop, slimG, Option.map_none, Option.map_some, List.getElem?_toArray, List.getElem?_cons_zero, List.getElem?_cons_succ, List.getD_cons_zero, List.getD_cons_succ, Option.bind_some]
    | refine wl Tryd.mx oRepL_0 (by decide +kernel) fun K hK => ?_
    | refine wt (fun _ => True) Tryd.mx [0, 2, 0, 2, 0, 2, 0, 0, 0] (.one 0 (.one 4 (.two 1 (.one 2 (.two 3 (.one 5 (.one 6 (.one 7 (.one 8 .nil)))) 5 (.one 3 (.one 6 (.one 7 (.one 8 .nil)))))) 5 (.one 1 (.one 2 (.one 3 (.one 6 (.one 7 (.one 8 .nil))))))))) (by decide +kernel) fun K hK => ?_
    | refine wb ?_ | refine wr ?_ | refine wk ?_ | refine we ?_ | refine ws ?_ | refine wq ?_
    | (refine wc rfl (fun hc => ?_) (fun hc => ?_) <;> (try simp at hc) <;> (try omega))
    | (refine ib (fun hc => ?_) (fun hc => ?_) <;> (try omega) <;> (try simp (disch := omega) only [if_pos, if_neg])))
    refine callK (refParse_call hG _ _ (Nat.lt_trans (hbd _) (by decide))) ?_
    rintro _ A3 ⟨u', rfl, hu', l3⟩ w3 n3
    have hpl := fun n => parseF_len (T.take kk ++ (ins ++ T.drop n))
    repeat' (first
    | (refine lwc fun R hR => ?_; simp [wrap_i64, wrap_u64, hl']; try simp (disch := omega) only [if_pos, if_neg, wrap_i64, wrap_u64])
    | (refine hR _ _ ?_; clear hR R) | (refine hK _ _ ?_; clear hK K) | refine lwn ?_ | refine lr ?_ | refine la ?_
    | (refine twc fun R hR => ?_; simp [wrap_i64, wrap_u64, hl']; try simp (disch := omega) only [if_pos, if_neg, wrap_i64, wrap_u64])
    | (refine tw2 (fun R hR => ?_) (fun R hR => ?_) <;> (simp [wrap_i64, wrap_u64, hl']; try simp (disch := omega) only [if_pos, if_neg, wrap_i64, wrap_u64]))
    | refine twn ?_
    | refine wn fun K hK => ?_
    | simp only [wS, oRepL_0]
    | simp only [ltree, tlop, slimG, Option.map_none, Option.map_some, List.getElem?_toArray, List.getElem?_cons_zero, List.getElem?_cons_succ, List.getD_cons_zero, List.getD_cons_succ, Option.bind_some]
    | refine wl Tryd.mx oRepL_0 (by decide +kernel) fun K hK => ?_
    | refine wt (fun _ => True) Tryd.mx [0, 2, 0, 2, 0, 2, 0, 0, 0] (.one 0 (.one 4 (.two 1 (.one 2 (.two 3 (.one 5 (.one 6 (.one 7 (.one 8 .nil)))) 5 (.one 3 (.one 6 (.one 7 (.one 8 .nil)))))) 5 (.one 1 (.one 2 (.one 3 (.one 6 (.one 7 (.one 8 .nil))))))))) (by decide +kernel) fun K hK => ?_
    | (refine callK (ksteps_call u u' _ _ A3 (hu.le l3 w2) hu' (Nat.lt_of_le_of_lt (hpl _) (Nat.lt_trans (hbd _) (by decide)))) ?_; rintro _ _ ⟨rfl, rfl⟩ _ _)
    | (refine callK (awake_call hG _) ?_; rintro _ _ ⟨rfl, rfl⟩ _ _)
    | refine wb ?_ | refine wr ?_ | refine wk ?_ | refine we ?_ | refine ws ?_ | refine wq ?_
    | (refine wc rfl (fun hc => ?_) (fun hc => ?_) <;> (try simp at hc) <;> (try omega))
    | (refine ib (fun hc => ?_) (fun hc => ?_) <;> (try omega) <;> (try simp (disch := omega) only [if_pos, if_neg])))
    all_goals simp [AThen, Yes])

theorem au8s_rep (n : Nat) : au8s (List.replicate n (.int .u8 49)) = some (List.replicate n 49) := by
  induction n with
  | zero => rfl
  | succ n ih => rw [List.replicate_succ, au8s, ih]; rfl
theorem nums_rep (n : Nat) : strOfNums (List.replicate n 49) = bs (List.replicate n 49) := by
  simp [strOfNums, bs]

theorem azeros1 (z : Value) (n : Nat) : azeros [z] n = List.replicate n z := by
  induction n with
  | zero => rfl
  | succ n ih => rw [azeros, ih]; rfl
def rowAt (N i : Nat) : List Value := List.replicate i (.int .u8 49) ++ List.replicate (N - i) (.int .u8 0)
theorem rowAt_len {N i : Nat} (h : i ≤ N) : (rowAt N i).length = N := by simp [rowAt]; omega
theorem rowAt_set {N i : Nat} (h : i < N) : (rowAt N i).set i (.int .u8 49) = rowAt N (i + 1) := by
  unfold rowAt
  rw [List.set_append_right _ _ (by simp)]
  simp only [List.length_replicate, Nat.sub_self]
  rw [show N - i = (N - (i + 1)) + 1 by omega, List.replicate_succ, List.set_cons_zero, List.replicate_succ', List.append_assoc]
  rfl
theorem abytes_row {A : AW} {b N : Nat} (h : A.get b = some (.cells (rowAt N N) true 1)) : abytes Tryd.prog A 32 9 (.slice (some ⟨b, 0, none⟩) N N) = some (.string (bs (List.replicate N 49))) := by
  have e : rowAt N N = List.replicate N (.int .u8 49) := by simp [rowAt]
  rw [e] at h
  simp [abytes, AW.row_get, h, au8s_rep, nums_rep]

set_option maxHeartbeats 4000000 in
theorem limits_call (hG : GOK) (n : Int) (A : AW) :
    ACall Tryd.prog 7 [.int .i64 n] A Yes := by
  refine acall_intro Tryd.func7 rfl (by kernel_rfl) fun hw => ?_
  repeat' (first
  | (refine lwc fun R hR => ?_; simp [wrap_i64, wrap_u64]; try simp (disch := omega) only [if_pos, if_neg, wrap_i64, wrap_u64])
  | (refine hR _ _ ?_; clear hR R) | (refine hK _ _ ?_; clear hK K) | refine lwn ?_ | refine lr ?_ | refine la ?_
  | refine wn fun K hK => ?_
  | simp only [wS]
  | refine wb ?_ | refine wr ?_ | refine wk ?_ | refine we ?_ | refine ws ?_ | refine wq ?_
  | (refine wc rfl (fun hc => ?_) (fun hc => ?_) <;> (try simp at hc) <;> (try omega))
  | (refine ib (fun hc => ?_) (fun hc => ?_) <;> (try omega) <;> (try simp (disch := omega) only [if_pos, if_neg])))
  refine callK (place_call' n 4 _ (by omega) (by omega)) ?_
  rintro _ _ ⟨qq, rfl, hQ, rfl⟩ _ _
  have hs1 : IntKind.i64.wrap ((262142 : Int) + qq) = ((262142 + qq : Nat) : Int) := wrap_i64 (by omega) (by omega)
  generalize hN : 262142 + qq = N at hs1
  have hN1 : N ≤ 262145 := by omega
  have hN2 : (0 : Int) ≤ N := by omega
  repeat' (first
  | (refine lwc fun R hR => ?_; simp [wrap_i64, wrap_u64, hs1]; try simp (disch := omega) only [if_pos, if_neg, wrap_i64, wrap_u64])
  | (refine hR _ _ ?_; clear hR R) | (refine hK _ _ ?_; clear hK K) | refine lwn ?_ | refine lr ?_ | refine la ?_
  | refine wn fun K hK => ?_
  | simp only [wS]
  | refine wb ?_ | refine wr ?_ | refine wk ?_ | refine we ?_ | refine ws ?_ | refine wq ?_
  | (refine wc rfl (fun hc => ?_) (fun hc => ?_) <;> (try simp at hc) <;> (try omega))
  | (refine ib (fun hc => ?_) (fun hc => ?_) <;> (try omega) <;> (try simp (disch := omega) only [if_pos, if_neg])))
  refine awp_loop (fun k fr A' => ∃ i : Nat, k = N - i ∧ i ≤ N ∧ fr 3 = .int .i64 N ∧ fr 4 = .slice (some ⟨A.next, 0, none⟩) N N ∧ fr 5 = .int .i64 i ∧ A.le A' ∧ A'.Wf ∧ A'.get A.next = some (.cells (rowAt N i) true 1)) N ?_ ?_
  · refine ⟨0, rfl, by omega, rfl, ?_, rfl, AW.le.alloc A _, hw.alloc _, ?_⟩
    · simp
    · simp [rowAt, azeros1]
  rintro k fr A' ⟨i, rfl, hi, g3, g4, g5, hle, hw', hg⟩
  by_cases hlt : i < N
  · have hj1 : IntKind.i64.wrap ((i : Int) + 1) = ((i + 1 : Nat) : Int) := wrap_i64 (by omega) (by omega)
    have hrl := rowAt_len hi
    have hrs := rowAt_set hlt
    repeat' (first
    | (refine lwc fun R hR => ?_; simp [wrap_i64, wrap_u64, g3, g4, g5, hlt, hj1, hg, astore, setCells, hrl, hrs]; try simp (disch := omega) only [if_pos, if_neg, wrap_i64, wrap_u64])
    | (refine hR _ _ ?_; clear hR R) | (refine hK _ _ ?_; clear hK K) | refine lwn ?_ | refine lr ?_ | refine la ?_
    | refine wn fun K hK => ?_
    | simp only [wS]
    | refine wb ?_ | refine wr ?_ | refine wk ?_ | refine we ?_ | refine ws ?_ | refine wq ?_
    | (refine wc rfl (fun hc => ?_) (fun hc => ?_) <;> (try simp at hc) <;> (try omega))
    | (refine ib (fun hc => ?_) (fun hc => ?_) <;> (try omega) <;> (try simp (disch := omega) only [if_pos, if_neg])))
    refine ⟨N - (i + 1), by omega, i + 1, rfl, by omega, ?_, ?_, ?_, hle.set (Nat.le_refl _) _, hw'.set _ (hw'.lt hg), by simp⟩
    · simp [g3]
    · simp [g4]
    · simp
  · have hiN : i = N := by omega
    subst hiN
    have hab := abytes_row hg
    have hpl := parseF_len (List.replicate i 49)
    have hrl : (List.replicate i (49 : UInt8)).length < 2 ^ 30 := by simp; omega
    repeat' (first
    | (refine lwc fun R hR => ?_; simp [wrap_i64, wrap_u64, g3, g4, g5, hlt, hab]; try simp (disch := omega) only [if_pos, if_neg, wrap_i64, wrap_u64])
    | (refine hR _ _ ?_; clear hR R) | (refine hK _ _ ?_; clear hK K) | refine lwn ?_ | refine lr ?_ | refine la ?_
    | refine wn fun K hK => ?_
    | simp only [wS]
    | refine wb ?_ | refine wr ?_ | refine wk ?_ | refine we ?_ | refine ws ?_ | refine wq ?_
    | (refine wc rfl (fun hc => ?_) (fun hc => ?_) <;> (try simp at hc) <;> (try omega))
    | (refine ib (fun hc => ?_) (fun hc => ?_) <;> (try omega) <;> (try simp (disch := omega) only [if_pos, if_neg])))
    refine callK (parseSteps_call hG (List.replicate i 49) _ hrl) ?_
    rintro _ A2 ⟨u, rfl, hu, l2⟩ w2 n2
    have hab2 := abytes_row (l2.keep hw' hg)
    repeat' (first
    | (refine lwc fun R hR => ?_; simp [wrap_i64, wrap_u64, g3, g4, g5, hab2]; try simp (disch := omega) only [if_pos, if_neg, wrap_i64, wrap_u64])
    | (refine hR _ _ ?_; clear hR R) | (refine hK _ _ ?_; clear hK K) | refine lwn ?_ | refine lr ?_ | refine la ?_
    | refine wn fun K hK => ?_
    | simp only [wS]
    | refine wb ?_ | refine wr ?_ | refine wk ?_ | refine we ?_ | refine ws ?_ | refine wq ?_
    | (refine wc rfl (fun hc => ?_) (fun hc => ?_) <;> (try simp at hc) <;> (try omega))
    | (refine ib (fun hc => ?_) (fun hc => ?_) <;> (try omega) <;> (try simp (disch := omega) only [if_pos, if_neg])))
    refine callK (refParse_call hG (List.replicate i 49) _ (Nat.lt_trans hrl (by decide))) ?_
    rintro _ A3 ⟨u', rfl, hu', l3⟩ w3 n3
    repeat' (first
    | (refine lwc fun R hR => ?_; simp [wrap_i64, wrap_u64, hlt]; try simp (disch := omega) only [if_pos, if_neg, wrap_i64, wrap_u64])
    | (refine hR _ _ ?_; clear hR R) | (refine hK _ _ ?_; clear hK K) | refine lwn ?_ | refine lr ?_ | refine la ?_
    | refine wn fun K hK => ?_
    | simp only [wS]
    | (refine callK (ksteps_call u u' _ _ A3 (hu.le l3 w2) hu' (Nat.lt_of_le_of_lt hpl (Nat.lt_trans hrl (by decide)))) ?_; rintro _ _ ⟨rfl, rfl⟩ _ _)
    | (refine callK (awake_call hG _) ?_; rintro _ _ ⟨rfl, rfl⟩ _ _)
    | refine wb ?_ | refine wr ?_ | refine wk ?_ | refine we ?_ | refine ws ?_ | refine wq ?_
    | (refine wc rfl (fun hc => ?_) (fun hc => ?_) <;> (try simp at hc) <;> (try omega))
    | (refine ib (fun hc => ?_) (fun hc => ?_) <;> (try omega) <;> (try simp (disch := omega) only [if_pos, if_neg])))
    all_goals simp [AThen, Yes]

end Go.Stx
