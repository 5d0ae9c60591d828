/-
  The reference's Sorted: what it returns.
-/
import Derived.Test.YtajhaafmlnoioaaLockA
namespace Go.Stx
open Go Go.Proofs
attribute [local irreducible] AWP LWalk ACall ARounds lops nops
set_option linter.unusedVariables false
set_option linter.unusedSimpArgs false

/-- One number into an ascending list. -/
def insS (out : List Int) (x : Int) : List Int :=
  match out with
  | [] => [x]
  | y :: r => if y < x then y :: insS r x else if y = x then y :: r else x :: y :: r

def refSortedF (l : List Int) : List Int := l.foldl insS []

theorem insS_at : ∀ (out : List Int) (x : Int) (k : Nat), k ≤ out.length → (∀ q (h : q < out.length), q < k → out[q] < x) → (∀ h : k < out.length, ¬ out[k] < x) →
    insS out x = if out[k]? = some x then out else out.take k ++ x :: out.drop k
  | [], x, k, hk, h1, h2 => by
    have : k = 0 := by simpa using hk
    subst this
    simp [insS]
  | y :: r, x, 0, hk, h1, h2 => by
    have := h2 (by simp)
    simp only [List.getElem_cons_zero] at this
    simp [insS, this]
  | y :: r, x, k + 1, hk, h1, h2 => by
    have h0 := h1 0 (by simp) (by omega)
    simp only [List.getElem_cons_zero] at h0
    have ih := insS_at r x k (by simpa using hk) (fun q h hq => h1 (q + 1) (by simpa using h) (by omega)) (fun h => h2 (by simpa using h))
    simp only [insS, h0, if_true, ih, List.getElem?_cons_succ, List.take_succ_cons, List.drop_succ_cons]
    split <;> simp

theorem insS_length (out : List Int) (x : Int) : (insS out x).length ≤ out.length + 1 := by
  induction out with
  | nil => simp [insS]
  | cons y r ih =>
    simp only [insS]
    split
    · simp; omega
    · split <;> simp

theorem refSortedF_length (l : List Int) : (refSortedF l).length ≤ l.length := by
  have : ∀ (l out : List Int), (l.foldl insS out).length ≤ out.length + l.length := by
    intro l
    induction l with
    | nil => intro out; simp
    | cons x r ih =>
      intro out
      have h1 := ih (insS out x)
      have h2 := insS_length out x
      simp only [List.foldl_cons, List.length_cons]
      omega
  simpa [refSortedF] using this l []

theorem shift_set (out : List Int) (u : Nat) (y : Int) (hu : u < out.length) : (out.take (u + 1) ++ y :: out.drop (u + 1)).set (u + 1) out[u] = out.take u ++ out[u] :: out.drop u := by
  have hl : (out.take (u + 1)).length = u + 1 := by simp; omega
  rw [List.set_append_right _ _ (by omega), hl, Nat.sub_self, List.set_cons_zero]
  have e : out.take (u + 1) = out.take u ++ [out[u]] := by rw [List.take_add_one, List.getElem?_eq_getElem hu]; rfl
  rw [e, List.append_assoc, List.singleton_append, ← List.drop_eq_getElem_cons hu]


theorem refSortedF_take {l : List Int} {j : Nat} (h : j < l.length) : refSortedF (l.take (j + 1)) = insS (refSortedF (l.take j)) l[j] := by
  rw [List.take_add_one, List.getElem?_eq_getElem h]
  show List.foldl insS [] (l.take j ++ [l[j]]) = _
  rw [List.foldl_append]
  rfl

set_option maxHeartbeats 4000000 in
theorem refSorted_call (v : Value) (l : List Int) (A : AW) (h : IsInts A .i64 v l) (hl : l.length < 2^38) :
    ACall Try.prog 11 [v] A (fun u A' => OwnInts A.next A' .i64 u (refSortedF l) ∧ A.le A') := by
  refine acall_intro Try.func11 rfl (by kernel_rfl) fun hw => ?_
  obtain ⟨o, c, rfl, _⟩ := h.form
  repeat' (first
  | (refine lwc fun R hR => ?_; simp [wrap_i64, wrap_u64]; try simp (disch := omega) only [if_pos, if_neg, wrap_i64, wrap_u64])
  | (refine hR _ _ ?_; clear hR R) | (refine hK _ _ ?_; clear hK K) | refine lwn ?_ | refine lr ?_ | refine la ?_
  | refine wn fun K hK => ?_
  | simp only [nops, nop, lops, lop, slimG, List.map_cons, List.map_nil, List.filterMap_cons, List.filterMap_nil, Option.map_none, Option.map_some, List.getElem?_toArray, List.getElem?_cons_zero, List.getElem?_cons_succ, Option.bind_some]
  | (refine wl Try.mx [(0,0),(1,0),(2,0),(3,0),(4,0),(5,0),(6,0),(7,0),(8,0),(9,0),(10,0),(11,0),(12,0),(13,0),(14,0)] (by decide +kernel) fun K hK => ?_)
  | refine wb ?_ | refine wr ?_ | refine wk ?_ | refine we ?_ | refine ws ?_ | refine wq ?_
  | ((refine wc rfl (fun hc => ?_) (fun hc => ?_)) <;> (try simp at hc) <;> (try omega))
  | ((refine ib (fun hc => ?_) (fun hc => ?_)) <;> (try omega) <;> (try simp (disch := omega) only [if_pos, if_neg])))
  refine awp_loop (fun k fr A' => ∃ (j : Nat) (sv : Value), k = l.length - j ∧ j ≤ l.length ∧ fr 0 = .slice o l.length c ∧ fr 4 = .int .i64 j ∧ fr 3 = sv ∧
    OwnInts A.next A' .i64 sv (refSortedF (l.take j)) ∧ A.le A' ∧ A'.Wf) l.length ?_ ?_
  · exact ⟨0, _, by simp, by simp, rfl, rfl, rfl, OwnInts.nil _ _ _, AW.le.refl A, hw⟩
  · rintro k fr A' ⟨j, sv, rfl, hj, g0, g4, g3, hown, hle, hw'⟩
    by_cases hlt : j < l.length
    case neg =>
      have hjl : j = l.length := by omega
      repeat' (first
      | (refine lwc fun R hR => ?_; simp [wrap_i64, wrap_u64, g0, g4, g3, hlt]; try simp (disch := omega) only [if_pos, if_neg, wrap_i64, wrap_u64])
      | (refine hR _ _ ?_; clear hR R) | (refine hK _ _ ?_; clear hK K) | refine lwn ?_ | refine lr ?_ | refine la ?_
      | refine wn fun K hK => ?_
      | simp only [nops, nop, lops, lop, slimG, List.map_cons, List.map_nil, List.filterMap_cons, List.filterMap_nil, Option.map_none, Option.map_some, List.getElem?_toArray, List.getElem?_cons_zero, List.getElem?_cons_succ, Option.bind_some]
      | (refine wl Try.mx [(0,0),(1,0),(2,0),(3,0),(4,0),(5,0),(6,0),(7,0),(8,0),(9,0),(10,0),(11,0),(12,0),(13,0),(14,0)] (by decide +kernel) fun K hK => ?_)
      | refine wb ?_ | refine wr ?_ | refine wk ?_ | refine we ?_ | refine ws ?_ | refine wq ?_
      | ((refine wc rfl (fun hc => ?_) (fun hc => ?_)) <;> (try simp at hc) <;> (try omega))
      | ((refine ib (fun hc => ?_) (fun hc => ?_)) <;> (try omega) <;> (try simp (disch := omega) only [if_pos, if_neg])))
      rw [hjl, List.take_length] at hown
      simpa using ⟨hown, hle⟩
    have hj1 : IntKind.i64.wrap ((j : Int) + 1) = ((j + 1 : Nat) : Int) := wrap_i64 (by omega) (by omega)
    obtain ⟨p, row, rfl, hrow, hcell⟩ := (h.le hle hw).at hlt
    have hstep := refSortedF_take hlt
    have hol := refSortedF_length (l.take j)
    simp only [List.length_take] at hol
    generalize hout : refSortedF (l.take j) = out at hown hstep hol
    generalize hx : l[j] = x at hcell hstep
    obtain ⟨so, sc, rfl, _⟩ := hown.is.form
    repeat' (first
    | (refine lwc fun R hR => ?_; simp [wrap_i64, wrap_u64, g0, g4, g3, hlt]; try simp (disch := omega) only [if_pos, if_neg, wrap_i64, wrap_u64])
    | (refine hR _ _ ?_; clear hR R) | (refine hK _ _ ?_; clear hK K) | refine lwn ?_ | refine lr ?_ | refine la ?_
    | refine wn fun K hK => ?_
    | simp only [nops, nop, lops, lop, slimG, List.map_cons, List.map_nil, List.filterMap_cons, List.filterMap_nil, Option.map_none, Option.map_some, List.getElem?_toArray, List.getElem?_cons_zero, List.getElem?_cons_succ, Option.bind_some]
    | (refine wl Try.mx [(0,0),(1,0),(2,0),(3,0),(4,0),(5,0),(6,0),(7,0),(8,0),(9,0),(10,0),(11,0),(12,0),(13,0),(14,0)] (by decide +kernel) fun K hK => ?_)
    | refine wb ?_ | refine wr ?_ | refine wk ?_ | refine we ?_ | refine ws ?_ | refine wq ?_
    | ((refine wc rfl (fun hc => ?_) (fun hc => ?_)) <;> (try simp at hc) <;> (try omega))
    | ((refine ib (fun hc => ?_) (fun hc => ?_)) <;> (try omega) <;> (try simp (disch := omega) only [if_pos, if_neg])))
    refine awp_loop (fun k' fr2 A2 => ∃ k : Nat, A' = A2 ∧ k' = out.length - k ∧ k ≤ out.length ∧ fr2 0 = .slice (some p) l.length c ∧ fr2 4 = .int .i64 j ∧ fr2 3 = .slice so out.length sc ∧ fr2 5 = .int .i64 k ∧
      ∀ q (h : q < out.length), q < k → out[q] < x) out.length ?_ ?_
    · refine ⟨0, rfl, by simp, by simp, ?_, ?_, ?_, ?_, by simp⟩ <;> simp [g0, g4, g3]
    · rintro k' fr2 A2 ⟨k, rfl, rfl, hk, f0, f4, f3, f5, hless⟩
      have hk1 : IntKind.i64.wrap ((k : Int) + 1) = ((k + 1 : Nat) : Int) := wrap_i64 (by omega) (by omega)
      have hnext : ∀ (fr3 : Fr) (A3 : AW) (sv3 : Value), fr3 0 = .slice (some p) l.length c → fr3 4 = .int .i64 ((j + 1 : Nat) : Int) → fr3 3 = sv3 → OwnInts A.next A3 .i64 sv3 (insS out x) → A.le A3 → A3.Wf →
          ∃ k', k' < l.length - j ∧ ∃ (j' : Nat) (sv : Value), k' = l.length - j' ∧ j' ≤ l.length ∧ fr3 0 = .slice (some p) l.length c ∧ fr3 4 = .int .i64 j' ∧ fr3 3 = sv ∧
            OwnInts A.next A3 .i64 sv (refSortedF (l.take j')) ∧ A.le A3 ∧ A3.Wf := by
        intro fr3 A3 sv3 e0 e4 e3 ho hl3 hw3
        exact ⟨l.length - (j + 1), by omega, j + 1, sv3, rfl, by omega, e0, e4, e3, by rw [hstep]; exact ho, hl3, hw3⟩
      obtain ⟨v2, A2, e1, e2, e3, e4, e5⟩ := append_int (P := Try.prog) (t := 22) 0 Try.underlying22 Try.info3 Try.zero3 rfl rfl hown (by omega) (by simp) hle.next hw'
      have hle2 := e3 A (Nat.le_refl _) hle
      obtain ⟨so2, sc2, rfl, hsc2⟩ := e2.is.form
      simp only [List.length_append, List.length_cons, List.length_nil, Nat.zero_add] at e1 e2 hsc2
      have hwl : IntKind.i64.wrap (out.length : Int) = out.length := wrap_i64 (by omega) (by omega)
      by_cases hlk : ∃ h : k < out.length, out[k] < x
      · obtain ⟨hko, hkx⟩ := hlk
        obtain ⟨p2, row2, rfl, hrow2, hcell2⟩ := hown.is.at hko
        repeat' (first
        | (refine lwc fun R hR => ?_; simp [wrap_i64, wrap_u64, f0, f4, f3, f5, hko, hrow, hcell, hrow2, hcell2, hkx, hk1, hlt]; try simp (disch := omega) only [if_pos, if_neg, wrap_i64, wrap_u64])
        | (refine hR _ _ ?_; clear hR R) | (refine hK _ _ ?_; clear hK K) | refine lwn ?_ | refine lr ?_ | refine la ?_
        | refine wn fun K hK => ?_
        | simp only [nops, nop, lops, lop, slimG, List.map_cons, List.map_nil, List.filterMap_cons, List.filterMap_nil, Option.map_none, Option.map_some, List.getElem?_toArray, List.getElem?_cons_zero, List.getElem?_cons_succ, Option.bind_some]
        | (refine wl Try.mx [(0,0),(1,0),(2,0),(3,0),(4,0),(5,0),(6,0),(7,0),(8,0),(9,0),(10,0),(11,0),(12,0),(13,0),(14,0)] (by decide +kernel) fun K hK => ?_)
        | refine wb ?_ | refine wr ?_ | refine wk ?_ | refine we ?_ | refine ws ?_ | refine wq ?_
        | ((refine wc rfl (fun hc => ?_) (fun hc => ?_)) <;> (try simp at hc) <;> (try omega))
        | ((refine ib (fun hc => ?_) (fun hc => ?_)) <;> (try omega) <;> (try simp (disch := omega) only [if_pos, if_neg])))
        all_goals refine ⟨out.length - (k + 1), by omega, k + 1, rfl, rfl, by omega, ?_, ?_, ?_, ?_, ?_⟩
        · simp [f0]
        · simp [f4]
        · simp [f3]
        · simp
        · intro q hq hqk
          by_cases e : q = k
          · subst e; exact hkx
          · exact hless q hq (by omega)
      · have hge : ∀ h : k < out.length, ¬ out[k] < x := fun h e => hlk ⟨h, e⟩
        have hins := insS_at out x k hk hless hge
        by_cases hko : k < out.length
        · obtain ⟨p2, row2, rfl, hrow2, hcell2⟩ := hown.is.at hko
          have hkx := hge hko
          by_cases heq : out[k] = x
          · have hsame : insS out x = out := by rw [hins, List.getElem?_eq_getElem hko, heq, if_pos rfl]
            rw [hsame] at hnext
            repeat' (first
            | (refine lwc fun R hR => ?_; simp [wrap_i64, wrap_u64, f0, f4, f3, f5, hko, hrow, hcell, hrow2, hcell2, hkx, heq, hj1, hlt]; try simp (disch := omega) only [if_pos, if_neg, wrap_i64, wrap_u64])
            | (refine hR _ _ ?_; clear hR R) | (refine hK _ _ ?_; clear hK K) | refine lwn ?_ | refine lr ?_ | refine la ?_
            | refine wn fun K hK => ?_
            | simp only [nops, nop, lops, lop, slimG, List.map_cons, List.map_nil, List.filterMap_cons, List.filterMap_nil, Option.map_none, Option.map_some, List.getElem?_toArray, List.getElem?_cons_zero, List.getElem?_cons_succ, Option.bind_some]
            | (refine wl Try.mx [(0,0),(1,0),(2,0),(3,0),(4,0),(5,0),(6,0),(7,0),(8,0),(9,0),(10,0),(11,0),(12,0),(13,0),(14,0)] (by decide +kernel) fun K hK => ?_)
            | refine wb ?_ | refine wr ?_ | refine wk ?_ | refine we ?_ | refine ws ?_ | refine wq ?_
            | ((refine wc rfl (fun hc => ?_) (fun hc => ?_)) <;> (try simp at hc) <;> (try omega))
            | ((refine ib (fun hc => ?_) (fun hc => ?_)) <;> (try omega) <;> (try simp (disch := omega) only [if_pos, if_neg])))
            all_goals refine hnext _ _ _ ?_ ?_ ?_ hown hle hw'
            all_goals simp [f0, f4, f3]
          · have hins2 : insS out x = out.take k ++ x :: out.drop k := by rw [hins, List.getElem?_eq_getElem hko, if_neg (by simpa using heq)]
            repeat' (first
            | (refine lwc fun R hR => ?_; simp [wrap_i64, wrap_u64, f0, f4, f3, f5, hko, hrow, hcell, hrow2, hcell2, hkx, heq, hj1, hlt, e1, hwl]; try simp (disch := omega) only [if_pos, if_neg, wrap_i64, wrap_u64])
            | (refine hR _ _ ?_; clear hR R) | (refine hK _ _ ?_; clear hK K) | refine lwn ?_ | refine lr ?_ | refine la ?_
            | refine wn fun K hK => ?_
            | simp only [nops, nop, lops, lop, slimG, List.map_cons, List.map_nil, List.filterMap_cons, List.filterMap_nil, Option.map_none, Option.map_some, List.getElem?_toArray, List.getElem?_cons_zero, List.getElem?_cons_succ, Option.bind_some]
            | (refine wl Try.mx [(0,0),(1,0),(2,0),(3,0),(4,0),(5,0),(6,0),(7,0),(8,0),(9,0),(10,0),(11,0),(12,0),(13,0),(14,0)] (by decide +kernel) fun K hK => ?_)
            | refine wb ?_ | refine wr ?_ | refine wk ?_ | refine we ?_ | refine ws ?_ | refine wq ?_
            | ((refine wc rfl (fun hc => ?_) (fun hc => ?_)) <;> (try simp at hc) <;> (try omega))
            | ((refine ib (fun hc => ?_) (fun hc => ?_)) <;> (try omega) <;> (try simp (disch := omega) only [if_pos, if_neg])))
            refine awp_loop (fun k' fr3 A3 => ∃ (t : Nat) (y : Int), k' = t - k ∧ k ≤ t ∧ t ≤ out.length ∧ fr3 0 = .slice (some p) l.length c ∧ fr3 4 = .int .i64 j ∧ fr3 3 = .slice so2 (out.length + 1) sc2 ∧ fr3 5 = .int .i64 k ∧ fr3 6 = .int .i64 t ∧
              OwnInts A.next A3 .i64 (.slice so2 (out.length + 1) sc2) (out.take t ++ y :: out.drop t) ∧ A.le A3 ∧ A3.Wf) (out.length - k) ?_ ?_
            · refine ⟨out.length, 0, rfl, hk, Nat.le_refl _, ?_, ?_, ?_, ?_, ?_, ?_, hle2, e4⟩
              · simp [f0]
              · simp [f4]
              · simp
              · simp [f5]
              · simp
              · simpa using e2
            · rintro k' fr3 A3 ⟨t, y, rfl, hkt, hto, i0, i4, i3, i5, i6, hcur, hle3, hw3⟩
              by_cases hkt2 : k < t
              case neg =>
                have htk : t = k := by omega
                subst htk
                obtain ⟨p4, row4, hp4, hrow4, hcell4⟩ := (h.le hle3 hw).at hlt
                injection hp4 with hp4
                subst hp4
                rw [hx] at hcell4
                obtain ⟨p3, c3, hv, hst⟩ := hcur.store (P := Try.prog) (t := 3) Try.info3 rfl (j := t) (by simp; omega)
                injection hv with hv1 hv2 hv3
                subst hv1
                obtain ⟨A4, s1, s2, s3, s4, s5⟩ := hst x
                have htl : (t : Int) < out.length + 1 := by omega
                repeat' (first
                | (refine lwc fun R hR => ?_; simp [wrap_i64, wrap_u64, i0, i4, i3, i5, i6, hkt2, hlt, hrow4, hcell4, s1, hj1, htl, hkt, hto]; try simp (disch := omega) only [if_pos, if_neg, wrap_i64, wrap_u64])
                | (refine hR _ _ ?_; clear hR R) | (refine hK _ _ ?_; clear hK K) | refine lwn ?_ | refine lr ?_ | refine la ?_
                | refine wn fun K hK => ?_
                | simp only [nops, nop, lops, lop, slimG, List.map_cons, List.map_nil, List.filterMap_cons, List.filterMap_nil, Option.map_none, Option.map_some, List.getElem?_toArray, List.getElem?_cons_zero, List.getElem?_cons_succ, Option.bind_some]
                | (refine wl Try.mx [(0,0),(1,0),(2,0),(3,0),(4,0),(5,0),(6,0),(7,0),(8,0),(9,0),(10,0),(11,0),(12,0),(13,0),(14,0)] (by decide +kernel) fun K hK => ?_)
                | refine wb ?_ | refine wr ?_ | refine wk ?_ | refine we ?_ | refine ws ?_ | refine wq ?_
                | ((refine wc rfl (fun hc => ?_) (fun hc => ?_)) <;> (try simp at hc) <;> (try omega))
                | ((refine ib (fun hc => ?_) (fun hc => ?_)) <;> (try omega) <;> (try simp (disch := omega) only [if_pos, if_neg])))
                all_goals refine hnext _ A4 (.slice (some p3) (out.length + 1) sc2) ?_ ?_ ?_ ?_ (s3 A (Nat.le_refl _) hle3) (s4 hw3)
                · simp [i0]
                · simp
                · simp [i3]
                · rw [hins2]
                  have e9 : (out.take t ++ y :: out.drop t).set t x = out.take t ++ x :: out.drop t := by
                    rw [List.set_append_right _ _ (by simp; omega)]
                    simp [Nat.min_eq_left hto]
                  rw [e9] at s2
                  exact s2
              obtain ⟨u, rfl⟩ : ∃ u, t = u + 1 := ⟨t - 1, by omega⟩
              have hwu : IntKind.i64.wrap (u : Int) = u := wrap_i64 (by omega) (by omega)
              have hcl : (out.take (u + 1) ++ y :: out.drop (u + 1)).length = out.length + 1 := by simp; omega
              have hcu : (out.take (u + 1) ++ y :: out.drop (u + 1))[u]'(by omega) = out[u] := by
                rw [List.getElem_append_left (by simp; omega), List.getElem_take]
              obtain ⟨p3, c3, hv, hst⟩ := hcur.store (P := Try.prog) (t := 3) Try.info3 rfl (j := u + 1) (by omega)
              injection hv with hv1 hv2 hv3
              subst hv1
              obtain ⟨p5, row5, hp5, hrow5, hcell5⟩ := hcur.is.at (i := u) (by omega)
              injection hp5 with hp5
              subst hp5
              rw [hcu] at hcell5
              obtain ⟨A4, s1, s2, s3, s4, s5⟩ := hst out[u]
              have hul : (u : Int) + 1 < out.length + 1 := by omega
              have hul2 : (u : Int) < out.length + 1 := by omega
              have hu0 : (0 : Int) ≤ (u : Int) + 1 := by omega
              repeat' (first
              | (refine lwc fun R hR => ?_; simp [wrap_i64, wrap_u64, i0, i4, i3, i5, i6, hkt2, hlt, hrow5, hcell5, s1, hwu, hul, hul2, hu0]; try simp (disch := omega) only [if_pos, if_neg, wrap_i64, wrap_u64])
              | (refine hR _ _ ?_; clear hR R) | (refine hK _ _ ?_; clear hK K) | refine lwn ?_ | refine lr ?_ | refine la ?_
              | refine wn fun K hK => ?_
              | simp only [nops, nop, lops, lop, slimG, List.map_cons, List.map_nil, List.filterMap_cons, List.filterMap_nil, Option.map_none, Option.map_some, List.getElem?_toArray, List.getElem?_cons_zero, List.getElem?_cons_succ, Option.bind_some]
              | (refine wl Try.mx [(0,0),(1,0),(2,0),(3,0),(4,0),(5,0),(6,0),(7,0),(8,0),(9,0),(10,0),(11,0),(12,0),(13,0),(14,0)] (by decide +kernel) fun K hK => ?_)
              | refine wb ?_ | refine wr ?_ | refine wk ?_ | refine we ?_ | refine ws ?_ | refine wq ?_
              | ((refine wc rfl (fun hc => ?_) (fun hc => ?_)) <;> (try simp at hc) <;> (try omega))
              | ((refine ib (fun hc => ?_) (fun hc => ?_)) <;> (try omega) <;> (try simp (disch := omega) only [if_pos, if_neg])))
              all_goals refine ⟨u - k, by omega, u, out[u], rfl, by omega, by omega, ?_, ?_, ?_, ?_, ?_, ?_, s3 A (Nat.le_refl _) hle3, s4 hw3⟩
              all_goals try (simp [i0, i4, i3, i5]; done)
              all_goals (rw [shift_set out u y (by omega)] at s2; exact s2)
        · have hkl : k = out.length := by omega
          have hins2 : insS out x = out.take k ++ x :: out.drop k := by rw [hins, List.getElem?_eq_none (by omega), if_neg (by simp)]
          repeat' (first
          | (refine lwc fun R hR => ?_; simp [wrap_i64, wrap_u64, f0, f4, f3, f5, hko, hrow, hcell, hj1, hlt, e1, hwl]; try simp (disch := omega) only [if_pos, if_neg, wrap_i64, wrap_u64])
          | (refine hR _ _ ?_; clear hR R) | (refine hK _ _ ?_; clear hK K) | refine lwn ?_ | refine lr ?_ | refine la ?_
          | refine wn fun K hK => ?_
          | simp only [nops, nop, lops, lop, slimG, List.map_cons, List.map_nil, List.filterMap_cons, List.filterMap_nil, Option.map_none, Option.map_some, List.getElem?_toArray, List.getElem?_cons_zero, List.getElem?_cons_succ, Option.bind_some]
          | (refine wl Try.mx [(0,0),(1,0),(2,0),(3,0),(4,0),(5,0),(6,0),(7,0),(8,0),(9,0),(10,0),(11,0),(12,0),(13,0),(14,0)] (by decide +kernel) fun K hK => ?_)
          | refine wb ?_ | refine wr ?_ | refine wk ?_ | refine we ?_ | refine ws ?_ | refine wq ?_
          | ((refine wc rfl (fun hc => ?_) (fun hc => ?_)) <;> (try simp at hc) <;> (try omega))
          | ((refine ib (fun hc => ?_) (fun hc => ?_)) <;> (try omega) <;> (try simp (disch := omega) only [if_pos, if_neg])))
          refine awp_loop (fun k' fr3 A3 => ∃ (t : Nat) (y : Int), k' = t - k ∧ k ≤ t ∧ t ≤ out.length ∧ fr3 0 = .slice (some p) l.length c ∧ fr3 4 = .int .i64 j ∧ fr3 3 = .slice so2 (out.length + 1) sc2 ∧ fr3 5 = .int .i64 k ∧ fr3 6 = .int .i64 t ∧
            OwnInts A.next A3 .i64 (.slice so2 (out.length + 1) sc2) (out.take t ++ y :: out.drop t) ∧ A.le A3 ∧ A3.Wf) (out.length - k) ?_ ?_
          · refine ⟨out.length, 0, rfl, hk, Nat.le_refl _, ?_, ?_, ?_, ?_, ?_, ?_, hle2, e4⟩
            · simp [f0]
            · simp [f4]
            · simp
            · simp [f5]
            · simp
            · simpa using e2
          · rintro k' fr3 A3 ⟨t, y, rfl, hkt, hto, i0, i4, i3, i5, i6, hcur, hle3, hw3⟩
            by_cases hkt2 : k < t
            case neg =>
              have htk : t = k := by omega
              subst htk
              obtain ⟨p4, row4, hp4, hrow4, hcell4⟩ := (h.le hle3 hw).at hlt
              injection hp4 with hp4
              subst hp4
              rw [hx] at hcell4
              obtain ⟨p3, c3, hv, hst⟩ := hcur.store (P := Try.prog) (t := 3) Try.info3 rfl (j := t) (by simp; omega)
              injection hv with hv1 hv2 hv3
              subst hv1
              obtain ⟨A4, s1, s2, s3, s4, s5⟩ := hst x
              have htl : (t : Int) < out.length + 1 := by omega
              repeat' (first
              | (refine lwc fun R hR => ?_; simp [wrap_i64, wrap_u64, i0, i4, i3, i5, i6, hkt2, hlt, hrow4, hcell4, s1, hj1, htl, hkt, hto]; try simp (disch := omega) only [if_pos, if_neg, wrap_i64, wrap_u64])
              | (refine hR _ _ ?_; clear hR R) | (refine hK _ _ ?_; clear hK K) | refine lwn ?_ | refine lr ?_ | refine la ?_
              | refine wn fun K hK => ?_
              | simp only [nops, nop, lops, lop, slimG, List.map_cons, List.map_nil, List.filterMap_cons, List.filterMap_nil, Option.map_none, Option.map_some, List.getElem?_toArray, List.getElem?_cons_zero, List.getElem?_cons_succ, Option.bind_some]
              | (refine wl Try.mx [(0,0),(1,0),(2,0),(3,0),(4,0),(5,0),(6,0),(7,0),(8,0),(9,0),(10,0),(11,0),(12,0),(13,0),(14,0)] (by decide +kernel) fun K hK => ?_)
              | refine wb ?_ | refine wr ?_ | refine wk ?_ | refine we ?_ | refine ws ?_ | refine wq ?_
              | ((refine wc rfl (fun hc => ?_) (fun hc => ?_)) <;> (try simp at hc) <;> (try omega))
              | ((refine ib (fun hc => ?_) (fun hc => ?_)) <;> (try omega) <;> (try simp (disch := omega) only [if_pos, if_neg])))
              all_goals refine hnext _ A4 (.slice (some p3) (out.length + 1) sc2) ?_ ?_ ?_ ?_ (s3 A (Nat.le_refl _) hle3) (s4 hw3)
              · simp [i0]
              · simp
              · simp [i3]
              · rw [hins2]
                have e9 : (out.take t ++ y :: out.drop t).set t x = out.take t ++ x :: out.drop t := by
                  rw [List.set_append_right _ _ (by simp; omega)]
                  simp [Nat.min_eq_left hto]
                rw [e9] at s2
                exact s2
            obtain ⟨u, rfl⟩ : ∃ u, t = u + 1 := ⟨t - 1, by omega⟩
            have hwu : IntKind.i64.wrap (u : Int) = u := wrap_i64 (by omega) (by omega)
            have hcl : (out.take (u + 1) ++ y :: out.drop (u + 1)).length = out.length + 1 := by simp; omega
            have hcu : (out.take (u + 1) ++ y :: out.drop (u + 1))[u]'(by omega) = out[u] := by
              rw [List.getElem_append_left (by simp; omega), List.getElem_take]
            obtain ⟨p3, c3, hv, hst⟩ := hcur.store (P := Try.prog) (t := 3) Try.info3 rfl (j := u + 1) (by omega)
            injection hv with hv1 hv2 hv3
            subst hv1
            obtain ⟨p5, row5, hp5, hrow5, hcell5⟩ := hcur.is.at (i := u) (by omega)
            injection hp5 with hp5
            subst hp5
            rw [hcu] at hcell5
            obtain ⟨A4, s1, s2, s3, s4, s5⟩ := hst out[u]
            have hul : (u : Int) + 1 < out.length + 1 := by omega
            have hul2 : (u : Int) < out.length + 1 := by omega
            have hu0 : (0 : Int) ≤ (u : Int) + 1 := by omega
            repeat' (first
            | (refine lwc fun R hR => ?_; simp [wrap_i64, wrap_u64, i0, i4, i3, i5, i6, hkt2, hlt, hrow5, hcell5, s1, hwu, hul, hul2, hu0]; try simp (disch := omega) only [if_pos, if_neg, wrap_i64, wrap_u64])
            | (refine hR _ _ ?_; clear hR R) | (refine hK _ _ ?_; clear hK K) | refine lwn ?_ | refine lr ?_ | refine la ?_
            | refine wn fun K hK => ?_
            | simp only [nops, nop, lops, lop, slimG, List.map_cons, List.map_nil, List.filterMap_cons, List.filterMap_nil, Option.map_none, Option.map_some, List.getElem?_toArray, List.getElem?_cons_zero, List.getElem?_cons_succ, Option.bind_some]
            | (refine wl Try.mx [(0,0),(1,0),(2,0),(3,0),(4,0),(5,0),(6,0),(7,0),(8,0),(9,0),(10,0),(11,0),(12,0),(13,0),(14,0)] (by decide +kernel) fun K hK => ?_)
            | refine wb ?_ | refine wr ?_ | refine wk ?_ | refine we ?_ | refine ws ?_ | refine wq ?_
            | ((refine wc rfl (fun hc => ?_) (fun hc => ?_)) <;> (try simp at hc) <;> (try omega))
            | ((refine ib (fun hc => ?_) (fun hc => ?_)) <;> (try omega) <;> (try simp (disch := omega) only [if_pos, if_neg])))
            all_goals refine ⟨u - k, by omega, u, out[u], rfl, by omega, by omega, ?_, ?_, ?_, ?_, ?_, ?_, s3 A (Nat.le_refl _) hle3, s4 hw3⟩
            all_goals try (simp [i0, i4, i3, i5]; done)
            all_goals (rw [shift_set out u y (by omega)] at s2; exact s2)

end Go.Stx
