/-
  The script of the machine laws.
-/
import Derived.Test.YtcffnkgjmneaeaaGreatDoorFbZe
namespace Go.Stx
open Go Go.Proofs
attribute [local irreducible] AWP LWalk ACall ARounds lops nops
set_option linter.unusedVariables false
set_option linter.unusedSimpArgs false
set_option linter.unusedSectionVars false
set_option maxRecDepth 20000
variable [Gl]

set_option maxHeartbeats 4000000 in
theorem script21_call (hn : Gl.N = 4) (l0 l1 l2 l3 l4 : Int) (vl vk : Value) (ls : List (List Int)) (pk : List Int) (strong : Bool) (A : AW) (hL : IsRows A vl ls) (hk : IsInts A .i64 vk pk) (hb0 : ls.length ≤ maxLen) (hpk : pk.length ≤ 17592186044415) :
    ACall Tryz.prog 15 [.agg #[.int .i64 l0, .int .i64 l1, .int .i64 l2, .int .i64 l3, .int .i64 l4], vl, vk, .bool strong] A (fun u A' => ∃ (b : Bool) (c : CfgS) (oi : Option Addr) (ni ci : Nat) (vp : Value) (ok : Option Addr) (ck : Nat) (us : List Value) (ps : List (List InsV)) (kl zs : List Int) (Z : Nat),
      u = .tuple #[scV c (.slice oi ni ci) vp (.slice ok kl.length ck), .bool b] ∧ A.next + 2 ≤ Z ∧ PS Z A' vp us ps ∧ A.le A' ∧ A'.Wf ∧ OwnSl Z A' 1 (.slice ok kl.length ck) kl.length (kl.map (Value.int .i64)) ∧ kl.length ≤ 17592186044415 ∧ us.length ≤ 16 ∧ (b = true → 1 ≤ us.length) ∧ (∀ q ∈ ps, q.length ≤ 1001) ∧
      (∀ j o, slBlock (.slice ok kl.length ck) = some j → PS Z (A'.set j o) vp us ps) ∧ zs.length = ni ∧ OwnSl (A.next + 2) A' 1 (.slice oi ni ci) ni (zs.map (Value.int .u64)) ∧ ∀ j, slBlock (.slice oi ni ci) = some j → j < Z) := by
  have hmax : maxLen = 9223372036854775807 := rfl
  rw [hmax] at hb0
  refine acall_intro Tryz.func15 rfl (by kernel_rfl) fun hw => ?_
  obtain ⟨ol, cl, rfl, _⟩ := hL.form
  obtain ⟨okk, ckk, rfl, _⟩ := hk.form
  repeat' (first
  | (refine lwc fun R hR => ?_; simp [wrap_i64, wrap_u64]; try simp (disch := omega) only [if_pos, if_neg, wrap_i64, wrap_u64])
  | (refine hR _ _ ?_; clear hR R) | (refine hK _ _ ?_; clear hK K) | refine lwn ?_ | refine lr ?_ | refine la ?_
  | refine wn fun K hK => ?_
  | simp only [wS]
  | refine wb ?_ | refine wr ?_ | refine wk ?_ | refine we ?_ | refine ws ?_ | refine wq ?_
  | (refine wc rfl (fun hc => ?_) (fun hc => ?_) <;> (try simp at hc) <;> (try omega))
  | (refine ib (fun hc => ?_) (fun hc => ?_) <;> (try omega) <;> (try simp (disch := omega) only [if_pos, if_neg])))
  refine awp_gen (fun A1 => A.le A1 ∧ A1.Wf ∧ A1.next = A.next + 2 ∧ A1.get A.next = some (.cells [.int .i64 l0, .int .i64 l1, .int .i64 l2, .int .i64 l3, .int .i64 l4] true 1) ∧ A1.get (A.next + 1) = some (.cells scZero true 1)) ?_ ?_
  · refine ⟨(AW.le.alloc A _).trans (AW.le.alloc _ _), (hw.alloc _).alloc _, by simp, ?_, ?_⟩
    · simp [AW.get_alloc, show ¬ A.next = A.next + 1 by omega]
    · simp [AW.get_alloc, scZero]
  rintro A1 ⟨hle1, hw1, hn1, hbA, hbR⟩
  have hL1 := hL.keeps (Keeps.of_le hle1 hw)
  have hk1 := hk.le hle1 hw
  refine awp_joinB (fun fr A' => A1 = A' ∧ ∃ s : Int, fr 1 = .slice ol ls.length cl ∧ fr 2 = .slice okk pk.length ckk ∧ fr 3 = .bool strong ∧ fr 4 = .pointer (some ⟨A.next, 0, none⟩) ∧ fr 8 = .pointer (some ⟨A.next + 1, 0, none⟩) ∧ fr 10 = .int .i64 s) ?_ ?_
  · refine awp_loop (fun k fr A' => A1 = A' ∧ ∃ (i : Nat) (s : Int), k = ls.length - i ∧ i ≤ ls.length ∧ fr 1 = .slice ol ls.length cl ∧ fr 2 = .slice okk pk.length ckk ∧ fr 3 = .bool strong ∧ fr 4 = .pointer (some ⟨A.next, 0, none⟩) ∧ fr 8 = .pointer (some ⟨A.next + 1, 0, none⟩) ∧ fr 10 = .int .i64 s ∧ fr 11 = .int .i64 i) ls.length ?_ ?_
    · exact ⟨rfl, 0, pk.length, rfl, Nat.zero_le _, rfl, rfl, rfl, rfl, rfl, rfl, rfl⟩
    · rintro k fr A' ⟨rfl, i, s, rfl, hi, g1, g2, g3, g4, g8, g10, g11⟩
      by_cases hlt : i < ls.length
      · obtain ⟨q, row, own, u, hq', hrow, hcell, hu⟩ := hL1.at hlt
        subst hq'
        obtain ⟨ou, cu, hu', _⟩ := hu.form
        subst hu'
        have hwi : IntKind.i64.wrap ((i : Int) + 1) = ((i + 1 : Nat) : Int) := wrap_i64 (by omega) (by omega)
        have hst : ls.length - i = (ls.length - (i + 1)) + 1 := by omega
        obtain ⟨s2, hs2⟩ : ∃ s2, IntKind.i64.wrap (s + ls[i].length) = s2 := ⟨_, rfl⟩
        refine awp_seq ?_
        repeat' (first
        | (refine lwc fun R hR => ?_; simp [wrap_i64, wrap_u64, g1, g2, g3, g4, g8, g10, g11, hlt, hwi, hrow, hcell, hs2, AW.row_get]; try simp (disch := omega) only [if_pos, if_neg, wrap_i64, wrap_u64])
        | (refine hR _ _ ?_; clear hR R) | (refine hK _ _ ?_; clear hK K) | refine lwn ?_ | refine lr ?_ | refine la ?_
        | refine wn fun K hK => ?_
        | simp only [wS]
        | refine wb ?_ | refine wr ?_ | refine wk ?_ | refine we ?_ | refine ws ?_ | refine wq ?_
        | (refine wc rfl (fun hc => ?_) (fun hc => ?_) <;> (try simp at hc) <;> (try omega))
        | (refine ib (fun hc => ?_) (fun hc => ?_) <;> (try omega) <;> (try simp (disch := omega) only [if_pos, if_neg])))
        refine ⟨ls.length - (i + 1), by omega, rfl, i + 1, s2, rfl, by omega, ?_, ?_, ?_, ?_, ?_, ?_, ?_⟩ <;> simp [g1, g2, g3, g4, g8]
      · have hil : i = ls.length := by omega
        subst hil
        refine awp_seq ?_
        repeat' (first
        | (refine lwc fun R hR => ?_; simp [wrap_i64, wrap_u64, g1, g2, g3, g4, g8, g10, g11, hlt]; try simp (disch := omega) only [if_pos, if_neg, wrap_i64, wrap_u64])
        | (refine hR _ _ ?_; clear hR R) | (refine hK _ _ ?_; clear hK K) | refine lwn ?_ | refine lr ?_ | refine la ?_
        | refine wn fun K hK => ?_
        | simp only [wS]
        | refine wb ?_ | refine wr ?_ | refine wk ?_ | refine we ?_ | refine ws ?_ | refine wq ?_
        | (refine wc rfl (fun hc => ?_) (fun hc => ?_) <;> (try simp at hc) <;> (try omega))
        | (refine ib (fun hc => ?_) (fun hc => ?_) <;> (try omega) <;> (try simp (disch := omega) only [if_pos, if_neg])))
        exact ⟨rfl, s, by simp [g1], by simp [g2], by simp [g3], by simp [g4], by simp [g8], by simp [g10]⟩
  rintro fr A' ⟨rfl, s, g1, g2, g3, g4, g8, g10⟩
  have hne : ¬ A.next = A.next + 1 := by omega
  have hne2 : ¬ A.next + 1 = A.next := by omega
  have zero : A.le (A1.set (A.next + 1) (some (.cells scZero true 1))) ∧ (A1.set (A.next + 1) (some (.cells scZero true 1))).Wf := ⟨hle1.set (by omega) _, hw1.set _ (by omega)⟩
  have zz : ∀ A', (A.le A' ∧ A'.Wf) → (.tuple #[scV ⟨0, 0, 0, 0, 0, 0, 0, 0, 0, 0, 0, 0, false⟩ (.slice none 0 0) (.slice none 0 0) (.slice none 0 0), .bool false] : Value) = .tuple #[scV ⟨0, 0, 0, 0, 0, 0, 0, 0, 0, 0, 0, 0, false⟩ (.slice none 0 0) (.slice none 0 0) (.slice none ([] : List Int).length 0), .bool false] ∧ A.next + 2 ≤ A.next + 2 ∧ PS (A.next + 2) A' (.slice none 0 0) [] [] ∧ A.le A' ∧ A'.Wf ∧
      OwnSl (A.next + 2) A' 1 (.slice none ([] : List Int).length 0) ([] : List Int).length (([] : List Int).map (Value.int .i64)) ∧ ([] : List Int).length ≤ 17592186044415 ∧ ([] : List Value).length ≤ 16 ∧ (false = true → 1 ≤ ([] : List Value).length) ∧ (∀ q ∈ ([] : List (List InsV)), q.length ≤ 1001) ∧ (∀ j o, slBlock (.slice none ([] : List Int).length 0) = some j → PS (A.next + 2) (A'.set j o) (.slice none 0 0) [] []) ∧
      ([] : List Int).length = 0 ∧ OwnSl (A.next + 2) A' 1 (.slice none 0 0) 0 (([] : List Int).map (Value.int .u64)) ∧ ∀ j, slBlock (.slice none 0 0) = some j → j < A.next + 2 :=
    fun A' h => ⟨rfl, Nat.le_refl _, PS.nil _ _, h.1, h.2, OwnSl.nil _ _ _, by simp, by simp, by simp, by simp, fun j o hj => by simp [slBlock] at hj, rfl, OwnSl.nil _ _ _, fun j hj => by simp [slBlock] at hj⟩
  unfold scZero at hbR zero
  by_cases h3 : 3 < ls.length
  · repeat' (first
  | (refine lwc fun R hR => ?_; simp [wrap_i64, wrap_u64, g1, g2, g3, g4, g8, g10, h3, hbR, AW.row_get, astore]; try simp (disch := omega) only [if_pos, if_neg, wrap_i64, wrap_u64])
  | (refine hR _ _ ?_; clear hR R) | (refine hK _ _ ?_; clear hK K) | refine lwn ?_ | refine lr ?_ | refine la ?_
  | refine wn fun K hK => ?_
  | simp only [wS]
  | refine wb ?_ | refine wr ?_ | refine wk ?_ | refine we ?_ | refine ws ?_ | refine wq ?_
  | (refine wc rfl (fun hc => ?_) (fun hc => ?_) <;> (try simp at hc) <;> (try omega))
  | (refine ib (fun hc => ?_) (fun hc => ?_) <;> (try omega) <;> (try simp (disch := omega) only [if_pos, if_neg])))
    all_goals (
      refine ⟨_, by first | (simp [ares, aresL, ares1, g8, aload, AW.row_get]; done) | (simp [ares, aresL, ares1, g8, aload, AW.row_get]; rfl), false, ⟨0, 0, 0, 0, 0, 0, 0, 0, 0, 0, 0, 0, false⟩, none, 0, 0, _, none, 0, [], [], [], [], _, zz _ zero⟩)
  by_cases h300 : 300 < s
  · repeat' (first
  | (refine lwc fun R hR => ?_; simp [wrap_i64, wrap_u64, g1, g2, g3, g4, g8, g10, h3, h300, hbR, AW.row_get, astore]; try simp (disch := omega) only [if_pos, if_neg, wrap_i64, wrap_u64])
  | (refine hR _ _ ?_; clear hR R) | (refine hK _ _ ?_; clear hK K) | refine lwn ?_ | refine lr ?_ | refine la ?_
  | refine wn fun K hK => ?_
  | simp only [wS]
  | refine wb ?_ | refine wr ?_ | refine wk ?_ | refine we ?_ | refine ws ?_ | refine wq ?_
  | (refine wc rfl (fun hc => ?_) (fun hc => ?_) <;> (try simp at hc) <;> (try omega))
  | (refine ib (fun hc => ?_) (fun hc => ?_) <;> (try omega) <;> (try simp (disch := omega) only [if_pos, if_neg])))
    all_goals (
      refine ⟨_, by first | (simp [ares, aresL, ares1, g8, aload, AW.row_get]; done) | (simp [ares, aresL, ares1, g8, aload, AW.row_get]; rfl), false, ⟨0, 0, 0, 0, 0, 0, 0, 0, 0, 0, 0, 0, false⟩, none, 0, 0, _, none, 0, [], [], [], [], _, zz _ zero⟩)
  obtain ⟨c, hc, cC⟩ := config_call l0 l1 l2 l3 l4
  have hm3 : (ls.length : Int).tmod 2 = ((ls.length % 2 : Nat) : Int) := by rw [Int.tmod_eq_emod_of_nonneg (by omega)]; omega
  obtain ⟨nn, hnn⟩ : ∃ nn : Nat, 2 + ls.length % 2 = nn := ⟨_, rfl⟩
  have hw3 : IntKind.i64.wrap (2 + (ls.length : Int).tmod 2) = (nn : Int) := by rw [hm3, wrap_i64 (by omega) (by omega)]; omega
  obtain ⟨wds, ords, bas, c0, c1, c2, c3, rds, wrs, als, fre, clk, stg⟩ := c
  have cS := fun O O' O'' => script_mk hn ⟨wds, ords, bas, c0, c1, c2, c3, rds, wrs, als, fre, clk, strong⟩ ⟨by have := hc.1; simp only at this ⊢; omega, by have := hc.2; simp only at this ⊢; omega⟩ nn (by omega) (.slice ol ls.length cl) (.slice okk pk.length ckk) ls pk 14 true true (((A1.alloc O).set A1.next O').set A1.next O'') (hL1.keeps (Keeps.of_le ((AW.le.upd A1 O O').set (Nat.le_refl _) O'') hw1)) (by omega) (hk1.le ((AW.le.upd A1 O O').set (Nat.le_refl _) O'') hw1) hpk (.inr (by omega))
  simp only [CfgS.v, CfgS.cells] at cC cS
  repeat' (first
  | (refine lwc fun R hR => ?_; simp [wrap_i64, wrap_u64, g1, g2, g3, g4, g8, g10, h3, h300, hbR, hbA, hw3, AW.row_get, astore]; try simp (disch := omega) only [if_pos, if_neg, wrap_i64, wrap_u64])
  | (refine hR _ _ ?_; clear hR R) | (refine hK _ _ ?_; clear hK K) | refine lwn ?_ | refine lr ?_ | refine la ?_
  | refine wn fun K hK => ?_
  | simp only [wS]
  | (refine callK (cC _) ?_; rintro _ _ ⟨rfl, rfl⟩ _ _)
  | refine wb ?_ | refine wr ?_ | refine wk ?_ | refine we ?_ | refine ws ?_ | refine wq ?_
  | (refine wc rfl (fun hc => ?_) (fun hc => ?_) <;> (try simp at hc) <;> (try omega))
  | (refine ib (fun hc => ?_) (fun hc => ?_) <;> (try omega) <;> (try simp (disch := omega) only [if_pos, if_neg])))
  refine (cS _ _ _).mono ?_
  rintro u A3 ⟨oi, ni, ci, vp, ok, ck, us, ps, kl, zs, Z, hu, hZ, hP, hle3, hw4, hKo, hkl, hun, hpl, hfr, hzl, hIo, hIz⟩
  subst hu
  obtain ⟨op, cp, hvp, _⟩ := hP.own.is.form
  subst hvp
  have hle13 := ((AW.le.upd A1 _ _).set (Nat.le_refl _) _).trans hle3
  have hbR3 := hle13.keep hw1 hbR
  have hlt3 := hw4.lt hbR3
  have hn3 := hle13.next
  rw [hn1] at hn3
  have hZ : A.next + 3 ≤ Z := by simp at hZ; omega
  have hIo := hIo.low (C := A.next + 2) (by simp; omega)
  have hQ := (hP.other (A' := A3.set (A.next + 1) (some (.cells (scCells ⟨wds, ords, bas, c0, c1, c2, c3, rds, wrs, als, fre, clk, strong⟩ (.slice oi ni ci) (.slice op us.length cp) (.slice ok kl.length ck)) true 1))) (fun j h1 _ => AW.set_get_ne (show j ≠ A.next + 1 by omega)) hw4)
  have hK2 := hKo.other (A' := A3.set (A.next + 1) (some (.cells (scCells ⟨wds, ords, bas, c0, c1, c2, c3, rds, wrs, als, fre, clk, strong⟩ (.slice oi ni ci) (.slice op us.length cp) (.slice ok kl.length ck)) true 1))) (fun j hj => AW.set_get_ne (fun e => by have := (hKo.lt hw4 hj).1; omega))
  have hI2 := hIo.other (A' := A3.set (A.next + 1) (some (.cells (scCells ⟨wds, ords, bas, c0, c1, c2, c3, rds, wrs, als, fre, clk, strong⟩ (.slice oi ni ci) (.slice op us.length cp) (.slice ok kl.length ck)) true 1))) (fun j hj => AW.set_get_ne (fun e => by have := (hIo.lt hw4 hj).1; omega))
  have hfr2 : ∀ j o, slBlock (.slice ok kl.length ck) = some j → PS Z ((A3.set (A.next + 1) (some (.cells (scCells ⟨wds, ords, bas, c0, c1, c2, c3, rds, wrs, als, fre, clk, strong⟩ (.slice oi ni ci) (.slice op us.length cp) (.slice ok kl.length ck)) true 1))).set j o) (.slice op us.length cp) us ps := fun j o hj =>
    (hfr j o hj).other (fun i h1 h2 => by
      by_cases e : i = j
      · subst e
        rw [AW.set_get_same, AW.set_get_same]
      · rw [AW.set_get_ne e, AW.set_get_ne (by omega), AW.set_get_ne e]) (hw4.set _ (hKo.lt hw4 hj).2)
  clear hP cS hfr hKo hIo
  unfold scV scCells CfgS.cells
  unfold scCells CfgS.cells at hQ hK2 hI2 hfr2
  simp only [List.cons_append, List.nil_append] at hQ hK2 hI2 hfr2 ⊢
  repeat' (first
  | (refine lwc fun R hR => ?_; simp [wrap_i64, wrap_u64, g1, g2, g3, g4, g8, hbR3, AW.row_get, astore]; try simp (disch := omega) only [if_pos, if_neg, wrap_i64, wrap_u64])
  | (refine hR _ _ ?_; clear hR R) | (refine hK _ _ ?_; clear hK K) | refine lwn ?_ | refine lr ?_ | refine la ?_
  | refine wn fun K hK => ?_
  | simp only [wS]
  | refine wb ?_ | refine wr ?_ | refine wk ?_ | refine we ?_ | refine ws ?_ | refine wq ?_
  | (refine wc rfl (fun hc => ?_) (fun hc => ?_) <;> (try simp at hc) <;> (try omega))
  | (refine ib (fun hc => ?_) (fun hc => ?_) <;> (try omega) <;> (try simp (disch := omega) only [if_pos, if_neg])))
  all_goals (
    refine ⟨_, by first | (simp [ares, aresL, ares1, g8, aload, AW.row_get]; done) | (simp [ares, aresL, ares1, g8, aload, AW.row_get]; rfl), true, ⟨wds, ords, bas, c0, c1, c2, c3, rds, wrs, als, fre, clk, strong⟩, oi, ni, ci, _, ok, ck, us, ps, kl, zs, Z, rfl, by omega, hQ, (hle1.trans hle13).set (by omega) _, hw4.set _ hlt3, hK2, by omega, by omega, fun _ => by omega, hpl, hfr2, hzl, hI2, hIz⟩)
end Go.Stx
