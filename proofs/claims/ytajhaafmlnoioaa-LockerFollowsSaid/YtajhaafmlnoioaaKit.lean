/-
  Contracts of the small functions that the statements share: places, lists compared and copied.
-/
import Derived.Test.YtajhaafmlnoioaaCoreB
import Derived.Test.YtajhaafmlnoioaaFacts
namespace Go.Stx
open Go Go.Proofs
attribute [local irreducible] AWP LWalk ACall ARounds lops nops
set_option linter.unusedVariables false
set_option linter.unusedSimpArgs false

def placeF (a n : Int) : Int := IntKind.u64.wrap a % n

theorem u64_wrap_range (a : Int) : 0 ≤ IntKind.u64.wrap a ∧ IntKind.u64.wrap a < 18446744073709551616 := by
  simp only [IntKind.wrap, IntKind.bits, IntKind.signed, Bool.false_and, Bool.false_eq_true, if_false]
  omega

theorem placeF_range (a n : Int) (hn : 0 < n) : 0 ≤ placeF a n ∧ placeF a n < n := ⟨Int.emod_nonneg _ (by omega), Int.emod_lt_of_pos _ hn⟩

theorem place_call (a n : Int) (A : AW) (hn : 0 < n) (hn2 : n ≤ 9223372036854775807) :
    ACall Try.prog 15 [.int .i64 a, .int .i64 n] A (fun v A' => v = .int .i64 (placeF a n) ∧ A = A') := by
  refine acall_intro Try.func15 rfl (by kernel_rfl) fun hw => ?_
  have hw1 : IntKind.u64.wrap n = n := wrap_u64 (by omega) (by omega)
  have hne : n ≠ 0 := by omega
  obtain ⟨h1, h2⟩ := u64_wrap_range a
  obtain ⟨h3, h4⟩ := placeF_range a n hn
  have hr : (IntKind.u64.wrap a).tmod n = placeF a n := Int.tmod_eq_emod_of_nonneg h1
  have hw2 : IntKind.i64.wrap (placeF a n) = placeF a n := wrap_i64 (by omega) (by omega)
  repeat' (first
  | (refine lwc fun R hR => ?_; simp [wrap_i64, wrap_u64, hw1, hne, hr, hw2]; try simp (disch := omega) only [if_pos, if_neg, wrap_i64, wrap_u64])
  | (refine hR _ _ ?_; clear hR R) | (refine hK _ _ ?_; clear hK K) | refine lwn ?_ | refine lr ?_ | refine la ?_
  | refine wn fun K hK => ?_
  | simp only [nops, nop, lops, lop, slimG, List.map_cons, List.map_nil, List.filterMap_cons, List.filterMap_nil, Option.map_none, Option.map_some, List.getElem?_toArray, List.getElem?_cons_zero, List.getElem?_cons_succ, Option.bind_some]
  | refine wb ?_ | refine wr ?_ | refine wk ?_ | refine we ?_ | refine ws ?_ | refine wq ?_
  | ((refine wc rfl (fun hc => ?_) (fun hc => ?_)) <;> (try simp at hc) <;> (try omega))
  | ((refine ib (fun hc => ?_) (fun hc => ?_)) <;> (try omega) <;> (try simp (disch := omega) only [if_pos, if_neg])))
  simp



set_option maxHeartbeats 1000000 in
theorem ints_call (va vb : Value) (a b : List Int) (A : AW) (ha : IsInts A .i64 va a) (hb : IsInts A .i64 vb b) (hla : a.length < 2^62) :
    ACall Try.prog 9 [va, vb] A (fun v A' => v = .bool (decide (a = b)) ∧ A = A') := by
  refine acall_intro Try.func9 rfl (by kernel_rfl) fun hw => ?_
  obtain ⟨oa, ca, rfl, _⟩ := ha.form
  obtain ⟨ob, cb, rfl, _⟩ := hb.form
  repeat' (first
  | (refine lwc fun R hR => ?_; simp [wrap_i64, wrap_u64]; try simp (disch := omega) only [if_pos, if_neg, wrap_i64, wrap_u64])
  | (refine hR _ _ ?_; clear hR R) | (refine hK _ _ ?_; clear hK K) | refine lwn ?_ | refine lr ?_ | refine la ?_
  | refine wn fun K hK => ?_
  | simp only [nops, nop, lops, lop, slimG, List.map_cons, List.map_nil, List.filterMap_cons, List.filterMap_nil, Option.map_none, Option.map_some, List.getElem?_toArray, List.getElem?_cons_zero, List.getElem?_cons_succ, Option.bind_some]
  | (refine wl Try.mx [(0,0),(1,0),(2,0),(3,0),(4,0),(5,0),(6,0),(7,0),(8,0)] (by decide +kernel) fun K hK => ?_)
  | refine wb ?_ | refine wr ?_ | refine wk ?_ | refine we ?_ | refine ws ?_ | refine wq ?_
  | ((refine wc rfl (fun hc => ?_) (fun hc => ?_)) <;> (try simp at hc) <;> (try omega))
  | ((refine ib (fun hc => ?_) (fun hc => ?_)) <;> (try omega) <;> (try simp (disch := omega) only [if_pos, if_neg])))
  · simp
    intro e
    subst e
    simp at hc
  · have hlen : a.length = b.length := by omega
    refine awp_loop (fun k fr A' => A = A' ∧ ∃ i : Nat, k = a.length - i ∧ i ≤ a.length ∧ fr 0 = .slice oa a.length ca ∧ fr 1 = .slice ob b.length cb ∧ fr 5 = .int .i64 i ∧ ∀ j, j < i → a[j]? = b[j]?) a.length ?_ ?_
    · refine ⟨rfl, 0, by simp, by simp, rfl, rfl, rfl, by simp⟩
    · rintro k fr A' ⟨rfl, i, rfl, hi, h0, h1, h5, hj⟩
      by_cases hlt : i < a.length
      · obtain ⟨p, row, rfl, hrow, hcell⟩ := ha.at hlt
        obtain ⟨q, row', rfl, hrow', hcell'⟩ := hb.at (i := i) (by omega)
        have hltb : i < b.length := by omega
        have hwi : IntKind.i64.wrap ((i : Int) + 1) = ((i + 1 : Nat) : Int) := wrap_i64 (by omega) (by omega)
        refine awp_seq ?_
        repeat' (first
        | (refine lwc fun R hR => ?_; simp [wrap_i64, wrap_u64, h0, h1, h5, hrow, hrow', hcell, hcell', hlt, hltb, hwi]; try simp (disch := omega) only [if_pos, if_neg, wrap_i64, wrap_u64])
        | (refine hR _ _ ?_; clear hR R) | (refine hK _ _ ?_; clear hK K) | refine lwn ?_ | refine lr ?_ | refine la ?_
        | refine wn fun K hK => ?_
        | simp only [nops, nop, lops, lop, slimG, List.map_cons, List.map_nil, List.filterMap_cons, List.filterMap_nil, Option.map_none, Option.map_some, List.getElem?_toArray, List.getElem?_cons_zero, List.getElem?_cons_succ, Option.bind_some]
        | (refine wl Try.mx [(0,0),(1,0),(2,0),(3,0),(4,0),(5,0),(6,0),(7,0),(8,0)] (by decide +kernel) fun K hK => ?_)
        | refine wb ?_ | refine wr ?_ | refine wk ?_ | refine we ?_ | refine ws ?_ | refine wq ?_
        | ((refine wc rfl (fun hc => ?_) (fun hc => ?_)) <;> (try simp at hc) <;> (try omega))
        | ((refine ib (fun hc => ?_) (fun hc => ?_)) <;> (try omega) <;> (try simp (disch := omega) only [if_pos, if_neg])))
        · simp
          intro e
          subst e
          simp at hc
        · refine ⟨a.length - (i + 1), by omega, rfl, i + 1, rfl, by omega, ?_, ?_, ?_, ?_⟩
          · simp [h0]
          · simp [h1]
          · simp
          · intro j hj'
            by_cases e : j = i
            · subst e
              rw [List.getElem?_eq_getElem hlt, List.getElem?_eq_getElem hltb, hc]
            · exact hj j (by omega)
      · refine awp_seq ?_
        repeat' (first
        | (refine lwc fun R hR => ?_; simp [wrap_i64, wrap_u64, h0, h1, h5, hlt]; try simp (disch := omega) only [if_pos, if_neg, wrap_i64, wrap_u64])
        | (refine hR _ _ ?_; clear hR R) | (refine hK _ _ ?_; clear hK K) | refine lwn ?_ | refine lr ?_ | refine la ?_
        | refine wn fun K hK => ?_
        | simp only [nops, nop, lops, lop, slimG, List.map_cons, List.map_nil, List.filterMap_cons, List.filterMap_nil, Option.map_none, Option.map_some, List.getElem?_toArray, List.getElem?_cons_zero, List.getElem?_cons_succ, Option.bind_some]
        | (refine wl Try.mx [(0,0),(1,0),(2,0),(3,0),(4,0),(5,0),(6,0),(7,0),(8,0)] (by decide +kernel) fun K hK => ?_)
        | refine wb ?_ | refine wr ?_ | refine wk ?_ | refine we ?_ | refine ws ?_ | refine wq ?_
        | ((refine wc rfl (fun hc => ?_) (fun hc => ?_)) <;> (try simp at hc) <;> (try omega))
        | ((refine ib (fun hc => ?_) (fun hc => ?_)) <;> (try omega) <;> (try simp (disch := omega) only [if_pos, if_neg])))
        have e : a = b := by
          apply List.ext_getElem?
          intro j
          by_cases hj' : j < i
          · exact hj j hj'
          · rw [List.getElem?_eq_none (by omega), List.getElem?_eq_none (by omega)]
        simp [e]

set_option maxHeartbeats 1000000 in
theorem words_call (va vb : Value) (a b : List Int) (A : AW) (ha : IsInts A .u64 va a) (hb : IsInts A .u64 vb b) (hla : a.length < 2^62) :
    ACall Try.prog 23 [va, vb] A (fun v A' => v = .bool (decide (a = b)) ∧ A = A') := by
  refine acall_intro Try.func23 rfl (by kernel_rfl) fun hw => ?_
  obtain ⟨oa, ca, rfl, _⟩ := ha.form
  obtain ⟨ob, cb, rfl, _⟩ := hb.form
  repeat' (first
  | (refine lwc fun R hR => ?_; simp [wrap_i64, wrap_u64]; try simp (disch := omega) only [if_pos, if_neg, wrap_i64, wrap_u64])
  | (refine hR _ _ ?_; clear hR R) | (refine hK _ _ ?_; clear hK K) | refine lwn ?_ | refine lr ?_ | refine la ?_
  | refine wn fun K hK => ?_
  | simp only [nops, nop, lops, lop, slimG, List.map_cons, List.map_nil, List.filterMap_cons, List.filterMap_nil, Option.map_none, Option.map_some, List.getElem?_toArray, List.getElem?_cons_zero, List.getElem?_cons_succ, Option.bind_some]
  | (refine wl Try.mx [(0,0),(1,0),(2,0),(3,0),(4,0),(5,0),(6,0),(7,0),(8,0)] (by decide +kernel) fun K hK => ?_)
  | refine wb ?_ | refine wr ?_ | refine wk ?_ | refine we ?_ | refine ws ?_ | refine wq ?_
  | ((refine wc rfl (fun hc => ?_) (fun hc => ?_)) <;> (try simp at hc) <;> (try omega))
  | ((refine ib (fun hc => ?_) (fun hc => ?_)) <;> (try omega) <;> (try simp (disch := omega) only [if_pos, if_neg])))
  · simp
    intro e
    subst e
    simp at hc
  · have hlen : a.length = b.length := by omega
    refine awp_loop (fun k fr A' => A = A' ∧ ∃ i : Nat, k = a.length - i ∧ i ≤ a.length ∧ fr 0 = .slice oa a.length ca ∧ fr 1 = .slice ob b.length cb ∧ fr 5 = .int .i64 i ∧ ∀ j, j < i → a[j]? = b[j]?) a.length ?_ ?_
    · refine ⟨rfl, 0, by simp, by simp, rfl, rfl, rfl, by simp⟩
    · rintro k fr A' ⟨rfl, i, rfl, hi, h0, h1, h5, hj⟩
      by_cases hlt : i < a.length
      · obtain ⟨p, row, rfl, hrow, hcell⟩ := ha.at hlt
        obtain ⟨q, row', rfl, hrow', hcell'⟩ := hb.at (i := i) (by omega)
        have hltb : i < b.length := by omega
        have hwi : IntKind.i64.wrap ((i : Int) + 1) = ((i + 1 : Nat) : Int) := wrap_i64 (by omega) (by omega)
        refine awp_seq ?_
        repeat' (first
        | (refine lwc fun R hR => ?_; simp [wrap_i64, wrap_u64, h0, h1, h5, hrow, hrow', hcell, hcell', hlt, hltb, hwi]; try simp (disch := omega) only [if_pos, if_neg, wrap_i64, wrap_u64])
        | (refine hR _ _ ?_; clear hR R) | (refine hK _ _ ?_; clear hK K) | refine lwn ?_ | refine lr ?_ | refine la ?_
        | refine wn fun K hK => ?_
        | simp only [nops, nop, lops, lop, slimG, List.map_cons, List.map_nil, List.filterMap_cons, List.filterMap_nil, Option.map_none, Option.map_some, List.getElem?_toArray, List.getElem?_cons_zero, List.getElem?_cons_succ, Option.bind_some]
        | (refine wl Try.mx [(0,0),(1,0),(2,0),(3,0),(4,0),(5,0),(6,0),(7,0),(8,0)] (by decide +kernel) fun K hK => ?_)
        | refine wb ?_ | refine wr ?_ | refine wk ?_ | refine we ?_ | refine ws ?_ | refine wq ?_
        | ((refine wc rfl (fun hc => ?_) (fun hc => ?_)) <;> (try simp at hc) <;> (try omega))
        | ((refine ib (fun hc => ?_) (fun hc => ?_)) <;> (try omega) <;> (try simp (disch := omega) only [if_pos, if_neg])))
        · simp
          intro e
          subst e
          simp at hc
        · refine ⟨a.length - (i + 1), by omega, rfl, i + 1, rfl, by omega, ?_, ?_, ?_, ?_⟩
          · simp [h0]
          · simp [h1]
          · simp
          · intro j hj'
            by_cases e : j = i
            · subst e
              rw [List.getElem?_eq_getElem hlt, List.getElem?_eq_getElem hltb, hc]
            · exact hj j (by omega)
      · refine awp_seq ?_
        repeat' (first
        | (refine lwc fun R hR => ?_; simp [wrap_i64, wrap_u64, h0, h1, h5, hlt]; try simp (disch := omega) only [if_pos, if_neg, wrap_i64, wrap_u64])
        | (refine hR _ _ ?_; clear hR R) | (refine hK _ _ ?_; clear hK K) | refine lwn ?_ | refine lr ?_ | refine la ?_
        | refine wn fun K hK => ?_
        | simp only [nops, nop, lops, lop, slimG, List.map_cons, List.map_nil, List.filterMap_cons, List.filterMap_nil, Option.map_none, Option.map_some, List.getElem?_toArray, List.getElem?_cons_zero, List.getElem?_cons_succ, Option.bind_some]
        | (refine wl Try.mx [(0,0),(1,0),(2,0),(3,0),(4,0),(5,0),(6,0),(7,0),(8,0)] (by decide +kernel) fun K hK => ?_)
        | refine wb ?_ | refine wr ?_ | refine wk ?_ | refine we ?_ | refine ws ?_ | refine wq ?_
        | ((refine wc rfl (fun hc => ?_) (fun hc => ?_)) <;> (try simp at hc) <;> (try omega))
        | ((refine ib (fun hc => ?_) (fun hc => ?_)) <;> (try omega) <;> (try simp (disch := omega) only [if_pos, if_neg])))
        have e : a = b := by
          apply List.ext_getElem?
          intro j
          by_cases hj' : j < i
          · exact hj j hj'
          · rw [List.getElem?_eq_none (by omega), List.getElem?_eq_none (by omega)]
        simp [e]

end Go.Stx
