/-
  Lists of lists that came in; what a thread locks; images compared; both cells set alike.
-/
import Derived.Test.YtajhaafmlnoioaaLockA
import Derived.Test.YtajhaafmlnoioaaCoreB
import Derived.Test.YtajhaafmlnoioaaRelA
import Derived.Test.YtajhaafmlnoioaaImage
namespace Go.Stx
open Go Go.Proofs
attribute [local irreducible] AWP LWalk ACall ARounds lops nops
set_option linter.unusedVariables false
set_option linter.unusedSimpArgs false

def atF (l : List Int) (i : Int) : Int := if 0 ≤ i ∧ i < l.length then l.getD i.toNat 0 else 0

theorem at_call (v : Value) (l : List Int) (i : Int) (A : AW) (h : IsInts A .i64 v l) : ACall Try.prog 16 [v, .int .i64 i] A (fun u A' => u = .int .i64 (atF l i) ∧ A = A') := by
  refine acall_intro Try.func16 rfl (by kernel_rfl) fun hw => ?_
  obtain ⟨o, c, rfl, _⟩ := h.form
  by_cases h1 : 0 ≤ i
  · obtain ⟨j, rfl⟩ : ∃ j : Nat, i = j := ⟨i.toNat, by omega⟩
    by_cases h2 : j < l.length
    · obtain ⟨p, row, rfl, hrow, hcell⟩ := h.at h2
      have h2i : (j : Int) < l.length := by omega
      repeat' (first
      | (refine lwc fun R hR => ?_; simp [wrap_i64, wrap_u64, h2, h2i, hrow, hcell]; try simp (disch := omega) only [if_pos, if_neg, wrap_i64, wrap_u64])
      | (refine hR _ _ ?_; clear hR R) | (refine hK _ _ ?_; clear hK K) | refine lwn ?_ | refine lr ?_ | refine la ?_
      | refine wn fun K hK => ?_
      | simp only [nops, nop, lops, lop, slimG, List.map_cons, List.map_nil, List.filterMap_cons, List.filterMap_nil, Option.map_none, Option.map_some, List.getElem?_toArray, List.getElem?_cons_zero, List.getElem?_cons_succ, Option.bind_some]
      | refine wb ?_ | refine wr ?_ | refine wk ?_ | refine we ?_ | refine ws ?_ | refine wq ?_
      | ((refine wc rfl (fun hc => ?_) (fun hc => ?_)) <;> (try simp at hc) <;> (try omega))
      | ((refine ib (fun hc => ?_) (fun hc => ?_)) <;> (try omega) <;> (try simp (disch := omega) only [if_pos, if_neg])))
      simp [atF, h2]
    · have h2i : ¬ (j : Int) < l.length := by omega
      repeat' (first
      | (refine lwc fun R hR => ?_; simp [wrap_i64, wrap_u64, h2, h2i]; try simp (disch := omega) only [if_pos, if_neg, wrap_i64, wrap_u64])
      | (refine hR _ _ ?_; clear hR R) | (refine hK _ _ ?_; clear hK K) | refine lwn ?_ | refine lr ?_ | refine la ?_
      | refine wn fun K hK => ?_
      | simp only [nops, nop, lops, lop, slimG, List.map_cons, List.map_nil, List.filterMap_cons, List.filterMap_nil, Option.map_none, Option.map_some, List.getElem?_toArray, List.getElem?_cons_zero, List.getElem?_cons_succ, Option.bind_some]
      | refine wb ?_ | refine wr ?_ | refine wk ?_ | refine we ?_ | refine ws ?_ | refine wq ?_
      | ((refine wc rfl (fun hc => ?_) (fun hc => ?_)) <;> (try simp at hc) <;> (try omega))
      | ((refine ib (fun hc => ?_) (fun hc => ?_)) <;> (try omega) <;> (try simp (disch := omega) only [if_pos, if_neg])))
      simp [atF, h2]
  · repeat' (first
  | (refine lwc fun R hR => ?_; simp [wrap_i64, wrap_u64, h1]; try simp (disch := omega) only [if_pos, if_neg, wrap_i64, wrap_u64])
  | (refine hR _ _ ?_; clear hR R) | (refine hK _ _ ?_; clear hK K) | refine lwn ?_ | refine lr ?_ | refine la ?_
  | refine wn fun K hK => ?_
  | simp only [nops, nop, lops, lop, slimG, List.map_cons, List.map_nil, List.filterMap_cons, List.filterMap_nil, Option.map_none, Option.map_some, List.getElem?_toArray, List.getElem?_cons_zero, List.getElem?_cons_succ, Option.bind_some]
  | refine wb ?_ | refine wr ?_ | refine wk ?_ | refine we ?_ | refine ws ?_ | refine wq ?_
  | ((refine wc rfl (fun hc => ?_) (fun hc => ?_)) <;> (try simp at hc) <;> (try omega))
  | ((refine ib (fun hc => ?_) (fun hc => ?_)) <;> (try omega) <;> (try simp (disch := omega) only [if_pos, if_neg])))
    simp [atF, h1]

def wantsF (ls : List (List Int)) (t : Nat) : List Int := if t < ls.length then ((ls.getD t []).take 8).map (fun a => placeF a 6) else [(t : Int)]

set_option maxHeartbeats 1000000 in
theorem wants_call (v : Value) (ls : List (List Int)) (t : Nat) (A : AW) (h : IsRows A v ls) (ht : t < 3) :
    ACall Try.prog 19 [v, .int .i64 (t : Int)] A (fun u A' => OwnInts A.next A' .i64 u (wantsF ls t) ∧ A.le A') := by
  refine acall_intro Try.func19 rfl (by kernel_rfl) fun hw => ?_
  obtain ⟨o, c, rfl, _⟩ := h.form
  by_cases hl : t < ls.length
  case neg =>
    have hli : (ls.length : Int) ≤ t := by omega
    have ht6 : (t : Int).tmod 6 = t := Int.tmod_eq_of_lt (by omega) (by omega)
    repeat' (first
    | (refine lwc fun R hR => ?_; simp [wrap_i64, wrap_u64, hl, hli, ht6]; try simp (disch := omega) only [if_pos, if_neg, wrap_i64, wrap_u64])
    | (refine hR _ _ ?_; clear hR R) | (refine hK _ _ ?_; clear hK K) | refine lwn ?_ | refine lr ?_ | refine la ?_
    | refine wn fun K hK => ?_
    | simp only [nops, nop, lops, lop, slimG, List.map_cons, List.map_nil, List.filterMap_cons, List.filterMap_nil, Option.map_none, Option.map_some, List.getElem?_toArray, List.getElem?_cons_zero, List.getElem?_cons_succ, Option.bind_some]
    | refine wb ?_ | refine wr ?_ | refine wk ?_ | refine we ?_ | refine ws ?_ | refine wq ?_
    | ((refine wc rfl (fun hc => ?_) (fun hc => ?_)) <;> (try simp at hc) <;> (try omega))
    | ((refine ib (fun hc => ?_) (fun hc => ?_)) <;> (try omega) <;> (try simp (disch := omega) only [if_pos, if_neg])))
    refine ⟨_, by first | (simp; done) | (simp; rfl), ?_, AW.le.alloc _ _⟩
    unfold wantsF
    rw [if_neg hl]
    exact .inr ⟨⟨A.next, 0, none⟩, 1, [.int .i64 t], rfl, Nat.le_refl _, rfl, Nat.le_refl _, AW.alloc_get_new _ _, by simp, by simp⟩
  have hli : ¬ (ls.length : Int) ≤ t := by omega
  obtain ⟨L, hL⟩ : ∃ L, L = ls[t] := ⟨_, rfl⟩
  have hw8 : wantsF ls t = (L.take 8).map (fun a => placeF a 6) := by unfold wantsF; rw [if_pos hl, List.getD_eq_getElem?_getD, List.getElem?_eq_getElem hl, hL]; rfl
  repeat' (first
  | (refine lwc fun R hR => ?_; simp [wrap_i64, wrap_u64, hl, hli]; try simp (disch := omega) only [if_pos, if_neg, wrap_i64, wrap_u64])
  | (refine hR _ _ ?_; clear hR R) | (refine hK _ _ ?_; clear hK K) | refine lwn ?_ | refine lr ?_ | refine la ?_
  | refine wn fun K hK => ?_
  | simp only [nops, nop, lops, lop, slimG, List.map_cons, List.map_nil, List.filterMap_cons, List.filterMap_nil, Option.map_none, Option.map_some, List.getElem?_toArray, List.getElem?_cons_zero, List.getElem?_cons_succ, Option.bind_some]
  | refine wb ?_ | refine wr ?_ | refine wk ?_ | refine we ?_ | refine ws ?_ | refine wq ?_
  | ((refine wc rfl (fun hc => ?_) (fun hc => ?_)) <;> (try simp at hc) <;> (try omega))
  | ((refine ib (fun hc => ?_) (fun hc => ?_)) <;> (try omega) <;> (try simp (disch := omega) only [if_pos, if_neg])))
  refine awp_loop (fun k fr A' => ∃ (j : Nat) (sv : Value), k = 8 - j ∧ j ≤ 8 ∧ j ≤ L.length ∧ fr 0 = .slice o ls.length c ∧ fr 1 = .int .i64 t ∧ fr 6 = .int .i64 j ∧ fr 5 = sv ∧
    OwnInts A.next A' .i64 sv ((L.take j).map (fun a => placeF a 6)) ∧ A.le A' ∧ A'.Wf) 8 ?_ ?_
  · exact ⟨0, _, by simp, by simp, by simp, rfl, rfl, rfl, rfl, by simpa using OwnInts.nil _ _ _, AW.le.refl A, hw⟩
  · rintro k fr A' ⟨j, sv, rfl, hj8, hj, g0, g1, g6, g5, hown, hle, hw'⟩
    obtain ⟨p, row, own, u, rfl, hgr, hcu, hu⟩ := (h.keeps (Keeps.of_le hle hw)).at hl
    rw [← hL] at hu
    obtain ⟨o2, c2, rfl, _⟩ := hu.form
    have hrow := AW.row_of hgr
    by_cases hlt : j < L.length
    case neg =>
      have hjl : j = L.length := by omega
      have hlti : ¬ (j : Int) < L.length := by omega
      repeat' (first
      | (refine lwc fun R hR => ?_; simp [wrap_i64, wrap_u64, g0, g1, g6, g5, hlt, hlti, hrow, hgr, hcu, hl]; try simp (disch := omega) only [if_pos, if_neg, wrap_i64, wrap_u64])
      | (refine hR _ _ ?_; clear hR R) | (refine hK _ _ ?_; clear hK K) | refine lwn ?_ | refine lr ?_ | refine la ?_
      | refine wn fun K hK => ?_
      | simp only [nops, nop, lops, lop, slimG, List.map_cons, List.map_nil, List.filterMap_cons, List.filterMap_nil, Option.map_none, Option.map_some, List.getElem?_toArray, List.getElem?_cons_zero, List.getElem?_cons_succ, Option.bind_some]
      | refine wb ?_ | refine wr ?_ | refine wk ?_ | refine we ?_ | refine ws ?_ | refine wq ?_
      | ((refine wc rfl (fun hc => ?_) (fun hc => ?_)) <;> (try simp at hc) <;> (try omega))
      | ((refine ib (fun hc => ?_) (fun hc => ?_)) <;> (try omega) <;> (try simp (disch := omega) only [if_pos, if_neg])))
      refine ⟨_, by first | (simp; done) | (simp; rfl), ?_, hle⟩
      rw [hw8, List.take_of_length_le (by omega), ← List.take_of_length_le (i := j) (l := L) (by omega)]
      simpa [g5] using hown
    have hlti : (j : Int) < L.length := by omega
    by_cases h8 : j < 8
    case neg =>
      have hj8' : j = 8 := by omega
      have h8i : ¬ (j : Int) < 8 := by omega
      repeat' (first
      | (refine lwc fun R hR => ?_; simp [wrap_i64, wrap_u64, g0, g1, g6, g5, hlt, hlti, h8, h8i, hrow, hgr, hcu, hl]; try simp (disch := omega) only [if_pos, if_neg, wrap_i64, wrap_u64])
      | (refine hR _ _ ?_; clear hR R) | (refine hK _ _ ?_; clear hK K) | refine lwn ?_ | refine lr ?_ | refine la ?_
      | refine wn fun K hK => ?_
      | simp only [nops, nop, lops, lop, slimG, List.map_cons, List.map_nil, List.filterMap_cons, List.filterMap_nil, Option.map_none, Option.map_some, List.getElem?_toArray, List.getElem?_cons_zero, List.getElem?_cons_succ, Option.bind_some]
      | refine wb ?_ | refine wr ?_ | refine wk ?_ | refine we ?_ | refine ws ?_ | refine wq ?_
      | ((refine wc rfl (fun hc => ?_) (fun hc => ?_)) <;> (try simp at hc) <;> (try omega))
      | ((refine ib (fun hc => ?_) (fun hc => ?_)) <;> (try omega) <;> (try simp (disch := omega) only [if_pos, if_neg])))
      refine ⟨_, by first | (simp; done) | (simp; rfl), ?_, hle⟩
      rw [hw8, ← hj8']
      simpa [g5] using hown
    have h8i : (j : Int) < 8 := by omega
    have hj1 : IntKind.i64.wrap ((j : Int) + 1) = ((j + 1 : Nat) : Int) := wrap_i64 (by omega) (by omega)
    obtain ⟨p2, row2, own2, rfl, hg2, hc2⟩ := hu.atg hlt
    obtain ⟨v', A2, e1, e2, e3, e4, e5⟩ := append_int (P := Try.prog) (t := 22) (placeF L[j] 6) Try.underlying22 Try.info3 Try.zero3 rfl rfl hown (by simp; omega) (by simp) hle.next hw'
    repeat' (first
    | (refine lwc fun R hR => ?_; simp [wrap_i64, wrap_u64, g0, g1, g6, g5, hlt, hlti, h8, h8i, hrow, hgr, hcu, hl, hg2, hc2, hj1, e1, AW.row_get]; try simp (disch := omega) only [if_pos, if_neg, wrap_i64, wrap_u64])
    | (refine hR _ _ ?_; clear hR R) | (refine hK _ _ ?_; clear hK K) | refine lwn ?_ | refine lr ?_ | refine la ?_
    | refine wn fun K hK => ?_
    | simp only [nops, nop, lops, lop, slimG, List.map_cons, List.map_nil, List.filterMap_cons, List.filterMap_nil, Option.map_none, Option.map_some, List.getElem?_toArray, List.getElem?_cons_zero, List.getElem?_cons_succ, Option.bind_some]
    | (refine callK (place_call _ 6 _ (by omega) (by omega)) ?_; rintro _ _ ⟨rfl, rfl⟩ _ _)
    | refine wb ?_ | refine wr ?_ | refine wk ?_ | refine we ?_ | refine ws ?_ | refine wq ?_
    | ((refine wc rfl (fun hc => ?_) (fun hc => ?_)) <;> (try simp at hc) <;> (try omega))
    | ((refine ib (fun hc => ?_) (fun hc => ?_)) <;> (try omega) <;> (try simp (disch := omega) only [if_pos, if_neg])))
    refine ⟨8 - (j + 1), by omega, j + 1, v', rfl, by omega, by omega, ?_, ?_, ?_, ?_, ?_, e3 A (Nat.le_refl _) hle, e4⟩
    · simp [g0]
    · simp [g1]
    · simp
    · simp
    · rw [List.take_add_one, List.getElem?_eq_getElem hlt, List.map_append]
      exact e2

theorem IsImage.le {A B : AW} {v : Value} {M : Nat → List Int} (h : IsImage A v M) (hl : A.le B) (hw : A.Wf) : IsImage B v M := by
  obtain ⟨v0, v1, v5, v6, v7, e, i0, i1, i5, i6, i7⟩ := h
  exact ⟨v0, v1, v5, v6, v7, e, i0.le hl hw, i1.le hl hw, i5.le hl hw, i6.le hl hw, i7.le hl hw⟩

set_option maxHeartbeats 1000000 in
theorem kitImage_call (va vb : Value) (M : Nat → List Int) (A : AW) (ha : IsImage A va M) (hb : IsImage A vb M) (hlen : ∀ k, k < 8 → (M k).length < 2^39) :
    ACall Try.prog 52 [va, vb] A (fun v A' => v = .bool true ∧ A.le A') := by
  refine acall_intro Try.func52 rfl (by kernel_rfl) fun hw => ?_
  obtain ⟨a0, a1, a5, a6, a7, rfl, i0, i1, i5, i6, i7⟩ := ha
  obtain ⟨b0, b1, b5, b6, b7, rfl, j0, j1, j5, j6, j7⟩ := hb
  have l2 : ∀ x y, A.le ((A.alloc x).alloc y) := fun x y => (AW.le.alloc A x).trans (AW.le.alloc _ y)
  have m0 := hlen 0 (by omega)
  have m1 := hlen 1 (by omega)
  have m5 := hlen 5 (by omega)
  have m6 := hlen 6 (by omega)
  have m7 := hlen 7 (by omega)
  repeat' (first
  | (refine lwc fun R hR => ?_; simp [wrap_i64, wrap_u64, AW.row_get]; try simp (disch := omega) only [if_pos, if_neg, wrap_i64, wrap_u64])
  | (refine hR _ _ ?_; clear hR R) | (refine hK _ _ ?_; clear hK K) | refine lwn ?_ | refine lr ?_ | refine la ?_
  | refine wn fun K hK => ?_
  | simp only [nops, nop, lops, lop, slimG, List.map_cons, List.map_nil, List.filterMap_cons, List.filterMap_nil, Option.map_none, Option.map_some, List.getElem?_toArray, List.getElem?_cons_zero, List.getElem?_cons_succ, Option.bind_some]
  | (refine callK (words_call a0 b0 (M 0) (M 0) _ (i0.le (l2 _ _) hw) (j0.le (l2 _ _) hw) (by omega)) ?_; rintro _ _ ⟨rfl, rfl⟩ _ _)
  | (refine callK (words_call a1 b1 (M 1) (M 1) _ (i1.le (l2 _ _) hw) (j1.le (l2 _ _) hw) (by omega)) ?_; rintro _ _ ⟨rfl, rfl⟩ _ _)
  | (refine callK (words_call a5 b5 (M 5) (M 5) _ (i5.le (l2 _ _) hw) (j5.le (l2 _ _) hw) (by omega)) ?_; rintro _ _ ⟨rfl, rfl⟩ _ _)
  | (refine callK (words_call a6 b6 (M 6) (M 6) _ (i6.le (l2 _ _) hw) (j6.le (l2 _ _) hw) (by omega)) ?_; rintro _ _ ⟨rfl, rfl⟩ _ _)
  | (refine callK (words_call a7 b7 (M 7) (M 7) _ (i7.le (l2 _ _) hw) (j7.le (l2 _ _) hw) (by omega)) ?_; rintro _ _ ⟨rfl, rfl⟩ _ _)
  | refine wb ?_ | refine wr ?_ | refine wk ?_ | refine we ?_ | refine ws ?_ | refine wq ?_
  | ((refine wc rfl (fun hc => ?_) (fun hc => ?_)) <;> (try simp at hc) <;> (try omega))
  | ((refine ib (fun hc => ?_) (fun hc => ?_)) <;> (try omega) <;> (try simp (disch := omega) only [if_pos, if_neg])))
  refine ⟨_, by first | (simp; done) | (simp; rfl), by first | rfl | simp, l2 _ _⟩

theorem IsInts_of_cast {A : AW} {k : IntKind} {v : Value} {l : List Int} {R Q : HP} (h : Sat A R) (e : R = IntsH k v l * Q) : IsInts A k v l := IntsH.is (h.cast e)

theorem RefH.image {A : AW} {mb : Nat} {M : Nat → List Int} {F : HP} (h : Sat A (RefH mb M * F)) :
    ∃ v0 v1 v5 v6 v7, A.get mb = some (.cells (cfgV.cells.toList ++ [v0, v1, .int .u64 ((M 2).getD 0 0), .int .u64 ((M 3).getD 0 0), .int .u64 ((M 4).getD 0 0), v5, v6, v7]) true 1) ∧
      IsImage A (.agg #[v0, v1, .int .u64 ((M 2).getD 0 0), .int .u64 ((M 3).getD 0 0), .int .u64 ((M 4).getD 0 0), v5, v6, v7]) M := by
  unfold RefH at h
  rw [Sat.ex] at h
  obtain ⟨⟨v0, v1, v5, v6, v7⟩, h⟩ := h
  dsimp only at h
  rw [HP.mul_assoc] at h
  have hr := h.right
  refine ⟨v0, v1, v5, v6, v7, h.get, v0, v1, v5, v6, v7, rfl, ?_, ?_, ?_, ?_, ?_⟩
  · exact IsInts_of_cast hr (Q := IntsH .u64 v1 (M 1) * (IntsH .u64 v5 (M 5) * (IntsH .u64 v6 (M 6) * IntsH .u64 v7 (M 7))) * F) (by ac_rfl)
  · exact IsInts_of_cast hr (Q := IntsH .u64 v0 (M 0) * (IntsH .u64 v5 (M 5) * (IntsH .u64 v6 (M 6) * IntsH .u64 v7 (M 7))) * F) (by ac_rfl)
  · exact IsInts_of_cast hr (Q := IntsH .u64 v1 (M 1) * (IntsH .u64 v0 (M 0) * (IntsH .u64 v6 (M 6) * IntsH .u64 v7 (M 7))) * F) (by ac_rfl)
  · exact IsInts_of_cast hr (Q := IntsH .u64 v1 (M 1) * (IntsH .u64 v5 (M 5) * (IntsH .u64 v0 (M 0) * IntsH .u64 v7 (M 7))) * F) (by ac_rfl)
  · exact IsInts_of_cast hr (Q := IntsH .u64 v1 (M 1) * (IntsH .u64 v5 (M 5) * (IntsH .u64 v6 (M 6) * IntsH .u64 v0 (M 0))) * F) (by ac_rfl)

set_option maxHeartbeats 1000000 in
theorem pairSame_call (pb mb : Nat) (M : Nat → List Int) (A : AW) (F : HP) (h : Sat A (MemH pb M * (RefH mb M * F))) (hlen : ∀ k, k < 8 → (M k).length < 2^39) (hM : RefOk M) :
    ACall Try.prog 27 [.agg #[.pointer (some ⟨pb, 0, none⟩), .pointer (some ⟨mb, 0, none⟩)]] A (fun v A' => v = .bool true ∧ A.le A') := by
  refine acall_intro Try.func27 rfl (by kernel_rfl) fun hw => ?_
  obtain ⟨v0, v1, v5, v6, v7, hg, him⟩ := RefH.image (h.cast (by ac_rfl) : Sat A (RefH mb M * (MemH pb M * F)))
  obtain ⟨nm, nm'⟩ := hw.old hg
  have l1 : ∀ x, A.le (A.alloc x) := fun x => AW.le.alloc A x
  obtain ⟨m2, m3, m4⟩ := hM
  repeat' (first
  | (refine lwc fun R hR => ?_; simp [wrap_i64, wrap_u64, AW.row_get, hg, nm, nm']; try simp (disch := omega) only [if_pos, if_neg, wrap_i64, wrap_u64])
  | (refine hR _ _ ?_; clear hR R) | (refine hK _ _ ?_; clear hK K) | refine lwn ?_ | refine lr ?_ | refine la ?_
  | refine wn fun K hK => ?_
  | simp only [nops, nop, lops, lop, slimG, List.map_cons, List.map_nil, List.filterMap_cons, List.filterMap_nil, Option.map_none, Option.map_some, List.getElem?_toArray, List.getElem?_cons_zero, List.getElem?_cons_succ, Option.bind_some]
  | (refine wl Try.mx [(0,0),(1,0),(3,0),(4,0),(5,0),(6,0),(7,0),(2,2),(8,2),(9,0)] (by decide +kernel) fun K hK => ?_)
  | refine wb ?_ | refine wr ?_ | refine wk ?_ | refine we ?_ | refine ws ?_ | refine wq ?_
  | ((refine wc rfl (fun hc => ?_) (fun hc => ?_)) <;> (try simp at hc) <;> (try omega))
  | ((refine ib (fun hc => ?_) (fun hc => ?_)) <;> (try omega) <;> (try simp (disch := omega) only [if_pos, if_neg])))
  refine callK (image_call pb M _ _ (h.keep hw _) hlen (by omega) (by omega) (by omega)) ?_
  rintro u A2 ⟨i1, l2⟩ w2 _
  refine ⟨l2, ?_⟩
  have hg2 := ((l1 _).trans l2).keep hw hg
  have hb2 := l2.keep (hw.alloc _) (AW.alloc_get_new A _)
  have him2 := him.le ((l1 _).trans l2) hw
  simp only [cfgV, Value.cells] at hg2
  repeat' (first
  | (refine lwc fun R hR => ?_; simp [wrap_i64, wrap_u64, AW.row_get, hg2, hb2]; try simp (disch := omega) only [if_pos, if_neg, wrap_i64, wrap_u64])
  | (refine hR _ _ ?_; clear hR R) | (refine hK _ _ ?_; clear hK K) | refine lwn ?_ | refine lr ?_ | refine la ?_
  | refine wn fun K hK => ?_
  | simp only [nops, nop, lops, lop, slimG, List.map_cons, List.map_nil, List.filterMap_cons, List.filterMap_nil, Option.map_none, Option.map_some, List.getElem?_toArray, List.getElem?_cons_zero, List.getElem?_cons_succ, Option.bind_some]
  | (refine wl Try.mx [(0,0),(1,0),(3,0),(4,0),(5,0),(6,0),(7,0),(2,2),(8,2),(9,0)] (by decide +kernel) fun K hK => ?_)
  | refine wb ?_ | refine wr ?_ | refine wk ?_ | refine we ?_ | refine ws ?_ | refine wq ?_
  | ((refine wc rfl (fun hc => ?_) (fun hc => ?_)) <;> (try simp at hc) <;> (try omega))
  | ((refine ib (fun hc => ?_) (fun hc => ?_)) <;> (try omega) <;> (try simp (disch := omega) only [if_pos, if_neg])))
  refine callK (kitImage_call u _ M A2 i1 him2 hlen) ?_
  rintro _ A3 ⟨rfl, l3⟩ w3 _
  refine ⟨l3, ?_⟩
  repeat' (first
  | (refine lwc fun R hR => ?_; simp [wrap_i64, wrap_u64, AW.row_get]; try simp (disch := omega) only [if_pos, if_neg, wrap_i64, wrap_u64])
  | (refine hR _ _ ?_; clear hR R) | (refine hK _ _ ?_; clear hK K) | refine lwn ?_ | refine lr ?_ | refine la ?_
  | refine wn fun K hK => ?_
  | simp only [nops, nop, lops, lop, slimG, List.map_cons, List.map_nil, List.filterMap_cons, List.filterMap_nil, Option.map_none, Option.map_some, List.getElem?_toArray, List.getElem?_cons_zero, List.getElem?_cons_succ, Option.bind_some]
  | (refine wl Try.mx [(0,0),(1,0),(3,0),(4,0),(5,0),(6,0),(7,0),(2,2),(8,2),(9,0)] (by decide +kernel) fun K hK => ?_)
  | refine wb ?_ | refine wr ?_ | refine wk ?_ | refine we ?_ | refine ws ?_ | refine wq ?_
  | ((refine wc rfl (fun hc => ?_) (fun hc => ?_)) <;> (try simp at hc) <;> (try omega))
  | ((refine ib (fun hc => ?_) (fun hc => ?_)) <;> (try omega) <;> (try simp (disch := omega) only [if_pos, if_neg])))
  refine ⟨_, by first | (simp; done) | (simp; rfl), by first | rfl | simp, ((l1 _).trans l2).trans l3⟩

end Go.Stx
