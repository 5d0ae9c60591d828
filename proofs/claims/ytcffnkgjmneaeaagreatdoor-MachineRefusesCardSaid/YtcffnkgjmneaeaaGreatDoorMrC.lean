/-
  The statement MachineRefuses.
-/
import Derived.Test.YtcffnkgjmneaeaaGreatDoorMrA
import Derived.Test.YtcffnkgjmneaeaaGreatDoorMrB
import Derived.Test.YtcffnkgjmneaeaaGreatDoorMrP
namespace Go.Stx
open Go Go.Proofs
def oMrC_0 : List (Nat × Nat) := [(0, 0), (1, 0), (2, 0), (3, 0), (4, 0), (5, 0), (6, 0), (7, 0), (8, 0), (9, 0), (10, 0), (11, 0), (13, 0), (14, 0), (12, 2), (15, 2), (16, 0), (17, 0), (18, 3)]
def oMrC_1 : List (Nat × Nat) := [(0, 0), (1, 0), (2, 0), (3, 0), (4, 0), (5, 0), (7, 0), (6, 2), (8, 0), (9, 3)]
attribute [local irreducible] AWP LWalk ACall ARounds lops nops
set_option linter.unusedVariables false
set_option linter.unusedSimpArgs false
set_option linter.unusedSectionVars false
set_option maxRecDepth 20000
variable [Gl]

theorem refuses21_plain (hF : FOK) (c : CfgS) (vi vp vk : Value) (zs : List Int) (ps : List (List InsV)) (pk : List Int) (A : AW) (hvi : IsInts A .u64 vi zs) (hp : IsProgs A vp ps) (hk : IsInts A .i64 vk pk) :
    ACall Tryz.prog 17 [scV c vi vp vk] A (fun u A' => u = .bool true ∧ A = A') :=
  ACall.gc0 (V := .bool true) (by simp) (fun hw => (refuses21_call hF c vi vp vk zs ps pk A hvi hp hk).mono fun u A' h => ⟨h.1, h.2.1⟩) (by kernel_rfl)

theorem OwnSl.apart {B b n : Nat} {A : AW} {v : Value} {cs row : List Value} (h : OwnSl B A 1 v n cs) (hg : A.get b = some (.cells row true 5)) : slBlock v ≠ some b := by
  intro e
  rcases h with ⟨rfl, _⟩ | ⟨q, c, r0, rfl, _, _, _, h4, _⟩
  · cases e
  · simp only [slBlock, Option.some.injEq] at e
    rw [e, hg] at h4
    injection h4 with h4
    injection h4 with _ _ h5
    exact absurd h5 (by decide)

set_option maxHeartbeats 16000000 in
theorem machineRefuses_call (hF : FOK) (hA : ∀ B, ACall Tryz.prog 16 [] B (fun u A' => u = .bool true ∧ B = A')) (c : CfgS) (vi vp vk : Value) (zs : List Int) (ps : List (List InsV)) (nk : List Int) (l0 l1 l2 l3 l4 : Int) (vl vq : Value) (ls : List (List Int)) (pk : List Int) (at0 v0 : Int) (A : AW)
    (hvi : IsInts A .u64 vi zs) (hp : IsProgs A vp ps) (hk0 : IsInts A .i64 vk nk) (hL : IsRows A vl ls) (hk : IsInts A .i64 vq pk) (hb0 : ls.length ≤ maxLen) (hpk : pk.length ≤ 17592186044415) :
    ACall Tryz.prog 5 [scV c vi vp vk, .agg #[.int .i64 l0, .int .i64 l1, .int .i64 l2, .int .i64 l3, .int .i64 l4], vl, vq, .int .i64 at0, .int .i64 v0] A (fun u A' => u = .bool true) := by
  refine acall_intro Tryz.func5 rfl (by kernel_rfl) fun hw => ?_
  obtain ⟨oi, ci, rfl, _⟩ := hvi.form
  obtain ⟨op, cp, rfl, _⟩ := hp.form
  obtain ⟨okk, ckk, rfl, _⟩ := hk0.form
  have cA := fun B => hA B
  obtain ⟨Ls, hLs⟩ : ∃ Ls, scCells c (.slice oi zs.length ci) (.slice op ps.length cp) (.slice okk nk.length ckk) = Ls := ⟨_, rfl⟩
  have hLs2 := hLs
  have hS : scV c (.slice oi zs.length ci) (.slice op ps.length cp) (.slice okk nk.length ckk) = .agg Ls.toArray := by rw [← hLs]; rfl
  rw [hS]
  unfold scCells CfgS.cells at hLs
  simp only [List.cons_append, List.nil_append] at hLs
  rw [← hLs]
  repeat' (first
  | (refine lwc fun R hR => ?_; simp [wrap_i64, wrap_u64, AW.row_get, astore]; try simp (disch := omega) only [if_pos, if_neg, wrap_i64, wrap_u64])
  | (refine hR _ _ ?_; clear hR R) | (refine hK _ _ ?_; clear hK K) | refine lwn ?_ | refine lr ?_ | refine la ?_
  | refine wn fun K hK => ?_
  | simp only [wS, oMrC_0, oMrC_1]
  | refine wl Tryz.mx oMrC_0 (by decide +kernel) fun K hK => ?_
  | refine wl Tryz.mx oMrC_1 (by decide +kernel) fun K hK => ?_
  | refine wb ?_ | refine wr ?_ | refine wk ?_ | refine we ?_ | refine ws ?_ | refine wq ?_
  | (refine wc rfl (fun hc => ?_) (fun hc => ?_) <;> (try simp at hc) <;> (try omega))
  | (refine ib (fun hc => ?_) (fun hc => ?_) <;> (try omega) <;> (try simp (disch := omega) only [if_pos, if_neg])))
  refine (script21_call hF.n l0 l1 l2 l3 l4 vl vq ls pk false _ (hL.keeps (Keeps.of_le ((AW.le.alloc A _).trans (AW.le.alloc _ _)) hw)) (hk.le ((AW.le.alloc A _).trans (AW.le.alloc _ _)) hw) hb0 hpk).mono ?_
  rintro u A3 ⟨b, c', oi', ni', ci', vp', ok', ck', us', ps', kl, zs', Z, hu, hZ, hP, hle3, hw3, hOwn, hkb, hul, hun, hpl1, hfr, hzl, hIo, hIz⟩
  subst hu
  have hwA := (hw.alloc (.cells Ls true 1)).alloc (.cells [.int .i64 l0, .int .i64 l1, .int .i64 l2, .int .i64 l3, .int .i64 l4] true 1)
  rw [← hLs] at hwA
  have hbS := hle3.keep hwA (i := A.next) (o := .cells Ls true 1) (by rw [← hLs]; simp [AW.get_alloc, show ¬ A.next = A.next + 1 by omega])
  rw [← hLs] at hbS
  have hle13 := ((AW.le.alloc A _).trans (AW.le.alloc _ _)).trans hle3
  have hlt3 := hw3.lt hbS
  have hne : ¬ A3.next = A.next := by omega
  have hne2 : ¬ A.next = A3.next := by omega
  have hn3 := hle3.next
  simp only [AW.alloc_next] at hn3 hZ
  have hIo := hIo.low (C := A.next + 2) (by simp only [AW.alloc_next]; omega)
  obtain ⟨op', cp', hvp', _⟩ := hP.own.is.form
  subst hvp'
  cases b with
  | false =>
    unfold scV scCells CfgS.cells
    simp only [List.cons_append, List.nil_append]
    repeat' (first
    | (refine lwc fun R hR => ?_; simp [wrap_i64, wrap_u64, hbS, hne, hne2, AW.row_get, astore]; try simp (disch := omega) only [if_pos, if_neg, wrap_i64, wrap_u64])
    | (refine hR _ _ ?_; clear hR R) | (refine hK _ _ ?_; clear hK K) | refine lwn ?_ | refine lr ?_ | refine la ?_
    | refine wn fun K hK => ?_
    | simp only [wS, oMrC_0, oMrC_1]
    | refine wl Tryz.mx oMrC_0 (by decide +kernel) fun K hK => ?_
    | refine wl Tryz.mx oMrC_1 (by decide +kernel) fun K hK => ?_
    | (refine callK (cA _) ?_; rintro _ _ ⟨rfl, rfl⟩ _ _)
    | refine wb ?_ | refine wr ?_ | refine wk ?_ | refine we ?_ | refine ws ?_ | refine wq ?_
    | (refine wc rfl (fun hc => ?_) (fun hc => ?_) <;> (try simp at hc) <;> (try omega))
    | (refine ib (fun hc => ?_) (fun hc => ?_) <;> (try omega) <;> (try simp (disch := omega) only [if_pos, if_neg])))
    all_goals simp [AThen, APost, ares, aresL, ares1]
  | true =>
    have hun := hun rfl
    by_cases h20 : 20 < ps.length
    · unfold scV scCells CfgS.cells
      simp only [List.cons_append, List.nil_append]
      repeat' (first
      | (refine lwc fun R hR => ?_; simp [wrap_i64, wrap_u64, hbS, hne, hne2, AW.row_get, astore, h20]; try simp (disch := omega) only [if_pos, if_neg, wrap_i64, wrap_u64])
      | (refine hR _ _ ?_; clear hR R) | (refine hK _ _ ?_; clear hK K) | refine lwn ?_ | refine lr ?_ | refine la ?_
      | refine wn fun K hK => ?_
      | simp only [wS, oMrC_0, oMrC_1]
      | refine wl Tryz.mx oMrC_0 (by decide +kernel) fun K hK => ?_
      | refine wl Tryz.mx oMrC_1 (by decide +kernel) fun K hK => ?_
      | (refine callK (cA _) ?_; rintro _ _ ⟨rfl, rfl⟩ _ _)
      | refine wb ?_ | refine wr ?_ | refine wk ?_ | refine we ?_ | refine ws ?_ | refine wq ?_
      | (refine wc rfl (fun hc => ?_) (fun hc => ?_) <;> (try simp at hc) <;> (try omega))
      | (refine ib (fun hc => ?_) (fun hc => ?_) <;> (try omega) <;> (try simp (disch := omega) only [if_pos, if_neg])))
      all_goals simp [AThen, APost, ares, aresL, ares1]
    by_cases h80 : 80 < zs.length
    · unfold scV scCells CfgS.cells
      simp only [List.cons_append, List.nil_append]
      repeat' (first
      | (refine lwc fun R hR => ?_; simp [wrap_i64, wrap_u64, hbS, hne, hne2, AW.row_get, astore, h20, h80]; try simp (disch := omega) only [if_pos, if_neg, wrap_i64, wrap_u64])
      | (refine hR _ _ ?_; clear hR R) | (refine hK _ _ ?_; clear hK K) | refine lwn ?_ | refine lr ?_ | refine la ?_
      | refine wn fun K hK => ?_
      | simp only [wS, oMrC_0, oMrC_1]
      | refine wl Tryz.mx oMrC_0 (by decide +kernel) fun K hK => ?_
      | refine wl Tryz.mx oMrC_1 (by decide +kernel) fun K hK => ?_
      | (refine callK (cA _) ?_; rintro _ _ ⟨rfl, rfl⟩ _ _)
      | refine wb ?_ | refine wr ?_ | refine wk ?_ | refine we ?_ | refine ws ?_ | refine wq ?_
      | (refine wc rfl (fun hc => ?_) (fun hc => ?_) <;> (try simp at hc) <;> (try omega))
      | (refine ib (fun hc => ?_) (fun hc => ?_) <;> (try omega) <;> (try simp (disch := omega) only [if_pos, if_neg])))
      all_goals simp [AThen, APost, ares, aresL, ares1]
    by_cases h81 : 80 < nk.length
    · unfold scV scCells CfgS.cells
      simp only [List.cons_append, List.nil_append]
      repeat' (first
      | (refine lwc fun R hR => ?_; simp [wrap_i64, wrap_u64, hbS, hne, hne2, AW.row_get, astore, h20, h80, h81]; try simp (disch := omega) only [if_pos, if_neg, wrap_i64, wrap_u64])
      | (refine hR _ _ ?_; clear hR R) | (refine hK _ _ ?_; clear hK K) | refine lwn ?_ | refine lr ?_ | refine la ?_
      | refine wn fun K hK => ?_
      | simp only [wS, oMrC_0, oMrC_1]
      | refine wl Tryz.mx oMrC_0 (by decide +kernel) fun K hK => ?_
      | refine wl Tryz.mx oMrC_1 (by decide +kernel) fun K hK => ?_
      | (refine callK (cA _) ?_; rintro _ _ ⟨rfl, rfl⟩ _ _)
      | refine wb ?_ | refine wr ?_ | refine wk ?_ | refine we ?_ | refine ws ?_ | refine wq ?_
      | (refine wc rfl (fun hc => ?_) (fun hc => ?_) <;> (try simp at hc) <;> (try omega))
      | (refine ib (fun hc => ?_) (fun hc => ?_) <;> (try omega) <;> (try simp (disch := omega) only [if_pos, if_neg])))
      all_goals simp [AThen, APost, ares, aresL, ares1]
    have hS2 : scV c' (.slice oi' ni' ci') (.slice op' us'.length cp') (.slice ok' kl.length ck') = .agg (scCells c' (.slice oi' ni' ci') (.slice op' us'.length cp') (.slice ok' kl.length ck')).toArray := rfl
    obtain ⟨Lx, hLx⟩ : ∃ Lx, scCells c' (.slice oi' ni' ci') (.slice op' us'.length cp') (.slice ok' kl.length ck') = Lx := ⟨_, rfl⟩
    rw [hS2, hLx]
    have hLx2 := hLx
    unfold scCells CfgS.cells at hLx
    simp only [List.cons_append, List.nil_append] at hLx
    rw [← hLx]
    obtain ⟨kp, hkp, hkpl⟩ : ∃ kp : Nat, placeF at0 us'.length = kp ∧ kp < us'.length := by
      have := placeF_range at0 us'.length (by omega)
      exact ⟨(placeF at0 us'.length).toNat, by omega, by omega⟩
    rcases hP.own with ⟨_, h0, _⟩ | ⟨p, cc, row, e, h2, hs, h3, h4, h5, h6⟩
    · omega
    injection e with e1 e2 e3
    subst e1
    subst e3
    have cP := fun B => place_call at0 (us'.length : Int) B (by omega) (by omega)
    rw [hkp] at cP
    have hlp := hw3.lt h4
    have hkpp : kp < ps'.length := by rw [← hP.len]; exact hkpl
    obtain ⟨u, hu1, hu2, hu3⟩ := hP.el kp hkpp
    have hu1' : row[p.off + kp]? = some u := by
      rw [h6, Nat.mul_one, List.getElem?_take_of_lt hkpl, List.getElem?_drop] at hu1
      exact hu1
    have n1 : ¬ p.block = A3.next := by omega
    have n2 : ¬ A3.next = p.block := by omega
    have n3 : ¬ p.block = A.next := by omega
    have n4 : ¬ A.next = p.block := by omega
    have hpo : 0 < us'.length := by omega
    obtain ⟨ou, cu, rfl, _⟩ := hu2.is.form
    obtain ⟨pl, hpl⟩ : ∃ pl, ps'[kp].length = pl := ⟨_, rfl⟩
    rw [hpl] at hu1'
    have hpl2 : pl ≤ 1001 := by rw [← hpl]; exact hpl1 _ (List.getElem_mem hkpp)
    have hI' : ∀ A6, OwnSl (A.next + 2) A6 1 (.slice oi' ni' ci') ni' (zs'.map (Value.int .u64)) → IsInts A6 .u64 (.slice oi' ni' ci') zs' := fun A6 h => by
      unfold IsInts
      rw [hzl]
      exact h.is
    by_cases htm : at0.tmod 2 = 0
    · by_cases hplz : 0 < pl
      · have hu2' := hu2
        rcases hu2 with ⟨_, h0, _⟩ | ⟨qq, cq, rowq, e, g2, gs, g3, g4, g5, g6⟩
        · omega
        injection e with e1 e2 e3
        subst e1
        subst e3
        rw [hpl] at g5
        obtain ⟨kj, hkj, hkjl⟩ : ∃ kj : Nat, placeF v0 pl = kj ∧ kj < pl := by
          have := placeF_range v0 pl (by omega)
          exact ⟨(placeF v0 pl).toNat, by omega, by omega⟩
        have hlq := hw3.lt g4
        have m1 : ¬ qq.block = A3.next := by omega
        have m2 : ¬ A3.next = qq.block := by omega
        have m3 : ¬ qq.block = A.next := by omega
        have m4 : ¬ A.next = qq.block := by omega
        have m5 : ¬ qq.block = p.block := fun e => hu3 p.block rfl (by rw [← e]; rfl)
        have m6 : ¬ p.block = qq.block := fun e => m5 e.symm
        have cQ := fun B => place_call v0 (pl : Int) B (by omega) (by omega)
        rw [hkj] at cQ
        obtain ⟨y, hy⟩ : ∃ y, placeF (IntKind.i64.wrap (at0.tdiv 2)) 20 = y := ⟨_, rfl⟩
        have cY := fun B => place_call (IntKind.i64.wrap (at0.tdiv 2)) 20 B (by omega) (by omega)
        rw [hy] at cY
        have hro : qq.off + kj * 5 + 1 ≤ rowq.length := by omega
        obtain ⟨ps2, hps2, hP2⟩ := hP.poke (off := qq.off + kj * 5) g4 y (fun e => m6 (by simpa [slBlock] using e))
        have hwp : (A3.set qq.block (some (.cells (rowq.set (qq.off + kj * 5) (.int .i64 y)) true 5))).Wf := hw3.set _ hlq
        have hM : ∀ O O' j, j < A3.next → (((A3.alloc O).set A3.next O').set qq.block (some (.cells (rowq.set (qq.off + kj * 5) (.int .i64 y)) true 5))).get j = (A3.set qq.block (some (.cells (rowq.set (qq.off + kj * 5) (.int .i64 y)) true 5))).get j := fun O O' j hj => by
          by_cases e : j = qq.block
          · subst e
            rw [AW.set_get_same, AW.set_get_same]
          · rw [AW.set_get_ne e, AW.set_get_ne e, AW.set_get_ne (by omega), AW.alloc_get_old _ _ (by omega)]
        have hleA : ∀ O O', A.le (((A3.alloc O).set A3.next O').set qq.block (some (.cells (rowq.set (qq.off + kj * 5) (.int .i64 y)) true 5))) := fun O O' => (hle13.trans (AW.le.upd A3 O O')).set (show A.next ≤ qq.block by omega) _
        have d1 := fun O O' => refuses21_plain hF c (.slice oi zs.length ci) (.slice op ps.length cp) (.slice okk nk.length ckk) zs ps nk _ (hvi.le (hleA O O') hw) (hp.le (hleA O O') hw) (hk0.le (hleA O O') hw)
        have d2 := fun O O' => refuses21_plain hF c' (.slice oi' ni' ci') (.slice (some p) us'.length cp') (.slice ok' kl.length ck') zs' ps2 kl (((A3.alloc O).set A3.next O').set qq.block (some (.cells (rowq.set (qq.off + kj * 5) (.int .i64 y)) true 5)))
          (hI' _ (hIo.other fun j hj => (hM O O' j (hIo.lt hw3 hj).2).trans (AW.set_get_ne (fun e => hIo.apart g4 (by rw [← e]; exact hj)))))
          ((hP2.other (fun j h1 h2 => hM O O' j h2) hwp).progs)
          (hOwn.other fun j hj => (hM O O' j (hOwn.lt hw3 hj).2).trans (AW.set_get_ne (fun e => hOwn.apart g4 (by rw [← e]; exact hj)))).is
        unfold scV scCells CfgS.cells at d1 d2
        simp only [List.cons_append, List.nil_append] at d1 d2
        repeat' (first
        | (refine lwc fun R hR => ?_; simp [wrap_i64, wrap_u64, hbS, hne, hne2, AW.row_get, astore, h20, h80, h81, htm, hplz, hpl, hu1', h4, hs, n1, n2, n3, n4, m1, m2, m3, m4, m5, m6, hpo, hkpl, hkjl, g4, gs, hro]; try simp (disch := omega) only [if_pos, if_neg, wrap_i64, wrap_u64])
        | (refine hR _ _ ?_; clear hR R) | (refine hK _ _ ?_; clear hK K) | refine lwn ?_ | refine lr ?_ | refine la ?_
        | refine wn fun K hK => ?_
        | simp only [wS, oMrC_0, oMrC_1]
        | refine wl Tryz.mx oMrC_0 (by decide +kernel) fun K hK => ?_
        | refine wl Tryz.mx oMrC_1 (by decide +kernel) fun K hK => ?_
        | (refine callK (cP _) ?_; rintro _ _ ⟨rfl, rfl⟩ _ _)
        | (refine callK (cQ _) ?_; rintro _ _ ⟨rfl, rfl⟩ _ _)
        | (refine callK (cY _) ?_; rintro _ _ ⟨rfl, rfl⟩ _ _)
        | (refine callK (d1 _ _) ?_; rintro _ _ ⟨rfl, rfl⟩ _ _)
        | (refine callK (d2 _ _) ?_; rintro _ _ ⟨rfl, rfl⟩ _ _)
        | (refine callK (cA _) ?_; rintro _ _ ⟨rfl, rfl⟩ _ _)
        | refine wb ?_ | refine wr ?_ | refine wk ?_ | refine we ?_ | refine ws ?_ | refine wq ?_
        | (refine wc rfl (fun hc => ?_) (fun hc => ?_) <;> (try simp at hc) <;> (try omega))
        | (refine ib (fun hc => ?_) (fun hc => ?_) <;> (try omega) <;> (try simp (disch := omega) only [if_pos, if_neg])))
        all_goals simp [AThen, APost, ares, aresL, ares1]
      · by_cases hz : 0 < kl.length
        · skip
          have hOp := hOwn
          rcases hOwn with ⟨_, h0, _⟩ | ⟨qk, ck, rowk, e, k2, ks, k3, k4, k5, k6⟩
          · exact absurd h0 (by omega)
          injection e with e1 e2 e3
          subst e1
          subst e3
          obtain ⟨kn, hkn, hknl⟩ : ∃ kn : Nat, placeF at0 kl.length = kn ∧ kn < kl.length := by
            have := placeF_range at0 kl.length (by omega)
            exact ⟨(placeF at0 kl.length).toNat, by omega, by omega⟩
          have cQ := fun B => place_call at0 (kl.length : Int) B (by omega) (by omega)
          rw [hkn] at cQ
          have hlk := hw3.lt k4
          have m1 : ¬ qk.block = A3.next := by omega
          have m2 : ¬ A3.next = qk.block := by omega
          have m3 : ¬ qk.block = A.next := by omega
          have m4 : ¬ A.next = qk.block := by omega
          have hro : qk.off + kn + 1 ≤ rowk.length := by omega
          have hwp : (A3.set qk.block (some (.cells (rowk.set (qk.off + kn) (.int .i64 v0)) true 1))).Wf := hw3.set _ hlk
          have hM : ∀ O O' j, j < A3.next → (((A3.alloc O).set A3.next O').set qk.block (some (.cells (rowk.set (qk.off + kn) (.int .i64 v0)) true 1))).get j = (A3.set qk.block (some (.cells (rowk.set (qk.off + kn) (.int .i64 v0)) true 1))).get j := fun O O' j hj => by
            by_cases e : j = qk.block
            · subst e
              rw [AW.set_get_same, AW.set_get_same]
            · rw [AW.set_get_ne e, AW.set_get_ne e, AW.set_get_ne (by omega), AW.alloc_get_old _ _ (by omega)]
          have hleA : ∀ O O', A.le (((A3.alloc O).set A3.next O').set qk.block (some (.cells (rowk.set (qk.off + kn) (.int .i64 v0)) true 1))) := fun O O' => (hle13.trans (AW.le.upd A3 O O')).set (show A.next ≤ qk.block by omega) _
          have hOk : OwnSl Z (A3.set qk.block (some (.cells (rowk.set (qk.off + kn) (.int .i64 v0)) true 1))) 1 (.slice (some qk) kl.length ck') (kl.set kn v0).length ((kl.set kn v0).map (Value.int .i64)) := by
            refine .inr ⟨qk, ck', rowk.set (qk.off + kn) (.int .i64 v0), by simp, by simpa using k2, ks, k3, AW.set_get_same, by simpa using k5, ?_⟩
            rw [List.map_set, k6, List.drop_set, if_neg (by omega), List.take_set, show qk.off + kn - qk.off = kn by omega]
            simp
          have d1 := fun O O' => refuses21_plain hF c (.slice oi zs.length ci) (.slice op ps.length cp) (.slice okk nk.length ckk) zs ps nk _ (hvi.le (hleA O O') hw) (hp.le (hleA O O') hw) (hk0.le (hleA O O') hw)
          have d2 := fun O O' => refuses21_plain hF c' (.slice oi' ni' ci') (.slice (some p) us'.length cp') (.slice (some qk) kl.length ck') zs' ps' (kl.set kn v0) (((A3.alloc O).set A3.next O').set qk.block (some (.cells (rowk.set (qk.off + kn) (.int .i64 v0)) true 1)))
            (hI' _ (hIo.other fun j hj => (hM O O' j (hIo.lt hw3 hj).2).trans (AW.set_get_ne (fun e => by have := hIz j hj; omega))))
            (((hfr qk.block (some (.cells (rowk.set (qk.off + kn) (.int .i64 v0)) true 1)) rfl).other (fun j h1 h2 => hM O O' j h2) hwp).progs)
            (hOk.other fun j hj => hM O O' j (hOk.lt hwp hj).2).is
          unfold scV scCells CfgS.cells at d1 d2
          simp only [List.cons_append, List.nil_append] at d1 d2
          repeat' (first
          | (refine lwc fun R hR => ?_; simp [wrap_i64, wrap_u64, hbS, hne, hne2, AW.row_get, astore, h20, h80, h81, htm, hplz, hpl, hu1', h4, hs, n1, n2, n3, n4, m1, m2, m3, m4, hpo, hkpl, hz, hknl, k4, ks, hro]; try simp (disch := omega) only [if_pos, if_neg, wrap_i64, wrap_u64])
          | (refine hR _ _ ?_; clear hR R) | (refine hK _ _ ?_; clear hK K) | refine lwn ?_ | refine lr ?_ | refine la ?_
          | refine wn fun K hK => ?_
          | simp only [wS, oMrC_0, oMrC_1]
          | refine wl Tryz.mx oMrC_0 (by decide +kernel) fun K hK => ?_
          | refine wl Tryz.mx oMrC_1 (by decide +kernel) fun K hK => ?_
          | (refine callK (cP _) ?_; rintro _ _ ⟨rfl, rfl⟩ _ _)
          | (refine callK (cQ _) ?_; rintro _ _ ⟨rfl, rfl⟩ _ _)
          | (refine callK (d1 _ _) ?_; rintro _ _ ⟨rfl, rfl⟩ _ _)
          | (refine callK (d2 _ _) ?_; rintro _ _ ⟨rfl, rfl⟩ _ _)
          | (refine callK (cA _) ?_; rintro _ _ ⟨rfl, rfl⟩ _ _)
          | refine wb ?_ | refine wr ?_ | refine wk ?_ | refine we ?_ | refine ws ?_ | refine wq ?_
          | (refine wc rfl (fun hc => ?_) (fun hc => ?_) <;> (try simp at hc) <;> (try omega))
          | (refine ib (fun hc => ?_) (fun hc => ?_) <;> (try omega) <;> (try simp (disch := omega) only [if_pos, if_neg])))
          all_goals simp [AThen, APost, ares, aresL, ares1]
        · skip
          have hM := fun O O' => AW.le.upd A3 O O'
          have d1 := fun O O' => refuses21_plain hF c (.slice oi zs.length ci) (.slice op ps.length cp) (.slice okk nk.length ckk) zs ps nk ((A3.alloc O).set A3.next O') (hvi.le (hle13.trans (hM O O')) hw) (hp.le (hle13.trans (hM O O')) hw) (hk0.le (hle13.trans (hM O O')) hw)
          have d2 := fun O O' => refuses21_plain hF c' (.slice oi' ni' ci') (.slice (some p) us'.length cp') (.slice ok' kl.length ck') zs' ps' kl ((A3.alloc O).set A3.next O') ((hI' A3 hIo).le (hM O O') hw3) (hP.progs.le (hM O O') hw3) (IsInts.le (hM O O') hw3 hOwn.is)
          unfold scV scCells CfgS.cells at d1 d2
          simp only [List.cons_append, List.nil_append] at d1 d2
          repeat' (first
          | (refine lwc fun R hR => ?_; simp [wrap_i64, wrap_u64, hbS, hne, hne2, AW.row_get, astore, h20, h80, h81, htm, hplz, hpl, hu1', h4, hs, n1, n2, n3, n4, hpo, hkpl, hz]; try simp (disch := omega) only [if_pos, if_neg, wrap_i64, wrap_u64])
          | (refine hR _ _ ?_; clear hR R) | (refine hK _ _ ?_; clear hK K) | refine lwn ?_ | refine lr ?_ | refine la ?_
          | refine wn fun K hK => ?_
          | simp only [wS, oMrC_0, oMrC_1]
          | refine wl Tryz.mx oMrC_0 (by decide +kernel) fun K hK => ?_
          | refine wl Tryz.mx oMrC_1 (by decide +kernel) fun K hK => ?_
          | (refine callK (cP _) ?_; rintro _ _ ⟨rfl, rfl⟩ _ _)
          | (refine callK (d1 _ _) ?_; rintro _ _ ⟨rfl, rfl⟩ _ _)
          | (refine callK (d2 _ _) ?_; rintro _ _ ⟨rfl, rfl⟩ _ _)
          | (refine callK (cA _) ?_; rintro _ _ ⟨rfl, rfl⟩ _ _)
          | refine wb ?_ | refine wr ?_ | refine wk ?_ | refine we ?_ | refine ws ?_ | refine wq ?_
          | (refine wc rfl (fun hc => ?_) (fun hc => ?_) <;> (try simp at hc) <;> (try omega))
          | (refine ib (fun hc => ?_) (fun hc => ?_) <;> (try omega) <;> (try simp (disch := omega) only [if_pos, if_neg])))
          all_goals simp [AThen, APost, ares, aresL, ares1]
    · have hplz : True := trivial
      by_cases hz : 0 < kl.length
      · skip
        have hOp := hOwn
        rcases hOwn with ⟨_, h0, _⟩ | ⟨qk, ck, rowk, e, k2, ks, k3, k4, k5, k6⟩
        · exact absurd h0 (by omega)
        injection e with e1 e2 e3
        subst e1
        subst e3
        obtain ⟨kn, hkn, hknl⟩ : ∃ kn : Nat, placeF at0 kl.length = kn ∧ kn < kl.length := by
          have := placeF_range at0 kl.length (by omega)
          exact ⟨(placeF at0 kl.length).toNat, by omega, by omega⟩
        have cQ := fun B => place_call at0 (kl.length : Int) B (by omega) (by omega)
        rw [hkn] at cQ
        have hlk := hw3.lt k4
        have m1 : ¬ qk.block = A3.next := by omega
        have m2 : ¬ A3.next = qk.block := by omega
        have m3 : ¬ qk.block = A.next := by omega
        have m4 : ¬ A.next = qk.block := by omega
        have hro : qk.off + kn + 1 ≤ rowk.length := by omega
        have hwp : (A3.set qk.block (some (.cells (rowk.set (qk.off + kn) (.int .i64 v0)) true 1))).Wf := hw3.set _ hlk
        have hM : ∀ O O' j, j < A3.next → (((A3.alloc O).set A3.next O').set qk.block (some (.cells (rowk.set (qk.off + kn) (.int .i64 v0)) true 1))).get j = (A3.set qk.block (some (.cells (rowk.set (qk.off + kn) (.int .i64 v0)) true 1))).get j := fun O O' j hj => by
          by_cases e : j = qk.block
          · subst e
            rw [AW.set_get_same, AW.set_get_same]
          · rw [AW.set_get_ne e, AW.set_get_ne e, AW.set_get_ne (by omega), AW.alloc_get_old _ _ (by omega)]
        have hleA : ∀ O O', A.le (((A3.alloc O).set A3.next O').set qk.block (some (.cells (rowk.set (qk.off + kn) (.int .i64 v0)) true 1))) := fun O O' => (hle13.trans (AW.le.upd A3 O O')).set (show A.next ≤ qk.block by omega) _
        have hOk : OwnSl Z (A3.set qk.block (some (.cells (rowk.set (qk.off + kn) (.int .i64 v0)) true 1))) 1 (.slice (some qk) kl.length ck') (kl.set kn v0).length ((kl.set kn v0).map (Value.int .i64)) := by
          refine .inr ⟨qk, ck', rowk.set (qk.off + kn) (.int .i64 v0), by simp, by simpa using k2, ks, k3, AW.set_get_same, by simpa using k5, ?_⟩
          rw [List.map_set, k6, List.drop_set, if_neg (by omega), List.take_set, show qk.off + kn - qk.off = kn by omega]
          simp
        have d1 := fun O O' => refuses21_plain hF c (.slice oi zs.length ci) (.slice op ps.length cp) (.slice okk nk.length ckk) zs ps nk _ (hvi.le (hleA O O') hw) (hp.le (hleA O O') hw) (hk0.le (hleA O O') hw)
        have d2 := fun O O' => refuses21_plain hF c' (.slice oi' ni' ci') (.slice (some p) us'.length cp') (.slice (some qk) kl.length ck') zs' ps' (kl.set kn v0) (((A3.alloc O).set A3.next O').set qk.block (some (.cells (rowk.set (qk.off + kn) (.int .i64 v0)) true 1)))
          (hI' _ (hIo.other fun j hj => (hM O O' j (hIo.lt hw3 hj).2).trans (AW.set_get_ne (fun e => by have := hIz j hj; omega))))
          (((hfr qk.block (some (.cells (rowk.set (qk.off + kn) (.int .i64 v0)) true 1)) rfl).other (fun j h1 h2 => hM O O' j h2) hwp).progs)
          (hOk.other fun j hj => hM O O' j (hOk.lt hwp hj).2).is
        unfold scV scCells CfgS.cells at d1 d2
        simp only [List.cons_append, List.nil_append] at d1 d2
        repeat' (first
        | (refine lwc fun R hR => ?_; simp [wrap_i64, wrap_u64, hbS, hne, hne2, AW.row_get, astore, h20, h80, h81, htm, hplz, hpl, hu1', h4, hs, n1, n2, n3, n4, m1, m2, m3, m4, hpo, hkpl, hz, hknl, k4, ks, hro]; try simp (disch := omega) only [if_pos, if_neg, wrap_i64, wrap_u64])
        | (refine hR _ _ ?_; clear hR R) | (refine hK _ _ ?_; clear hK K) | refine lwn ?_ | refine lr ?_ | refine la ?_
        | refine wn fun K hK => ?_
        | simp only [wS, oMrC_0, oMrC_1]
        | refine wl Tryz.mx oMrC_0 (by decide +kernel) fun K hK => ?_
        | refine wl Tryz.mx oMrC_1 (by decide +kernel) fun K hK => ?_
        | (refine callK (cP _) ?_; rintro _ _ ⟨rfl, rfl⟩ _ _)
        | (refine callK (cQ _) ?_; rintro _ _ ⟨rfl, rfl⟩ _ _)
        | (refine callK (d1 _ _) ?_; rintro _ _ ⟨rfl, rfl⟩ _ _)
        | (refine callK (d2 _ _) ?_; rintro _ _ ⟨rfl, rfl⟩ _ _)
        | (refine callK (cA _) ?_; rintro _ _ ⟨rfl, rfl⟩ _ _)
        | refine wb ?_ | refine wr ?_ | refine wk ?_ | refine we ?_ | refine ws ?_ | refine wq ?_
        | (refine wc rfl (fun hc => ?_) (fun hc => ?_) <;> (try simp at hc) <;> (try omega))
        | (refine ib (fun hc => ?_) (fun hc => ?_) <;> (try omega) <;> (try simp (disch := omega) only [if_pos, if_neg])))
        all_goals simp [AThen, APost, ares, aresL, ares1]
      · skip
        have hM := fun O O' => AW.le.upd A3 O O'
        have d1 := fun O O' => refuses21_plain hF c (.slice oi zs.length ci) (.slice op ps.length cp) (.slice okk nk.length ckk) zs ps nk ((A3.alloc O).set A3.next O') (hvi.le (hle13.trans (hM O O')) hw) (hp.le (hle13.trans (hM O O')) hw) (hk0.le (hle13.trans (hM O O')) hw)
        have d2 := fun O O' => refuses21_plain hF c' (.slice oi' ni' ci') (.slice (some p) us'.length cp') (.slice ok' kl.length ck') zs' ps' kl ((A3.alloc O).set A3.next O') ((hI' A3 hIo).le (hM O O') hw3) (hP.progs.le (hM O O') hw3) (IsInts.le (hM O O') hw3 hOwn.is)
        unfold scV scCells CfgS.cells at d1 d2
        simp only [List.cons_append, List.nil_append] at d1 d2
        repeat' (first
        | (refine lwc fun R hR => ?_; simp [wrap_i64, wrap_u64, hbS, hne, hne2, AW.row_get, astore, h20, h80, h81, htm, hplz, hpl, hu1', h4, hs, n1, n2, n3, n4, hpo, hkpl, hz]; try simp (disch := omega) only [if_pos, if_neg, wrap_i64, wrap_u64])
        | (refine hR _ _ ?_; clear hR R) | (refine hK _ _ ?_; clear hK K) | refine lwn ?_ | refine lr ?_ | refine la ?_
        | refine wn fun K hK => ?_
        | simp only [wS, oMrC_0, oMrC_1]
        | refine wl Tryz.mx oMrC_0 (by decide +kernel) fun K hK => ?_
        | refine wl Tryz.mx oMrC_1 (by decide +kernel) fun K hK => ?_
        | (refine callK (cP _) ?_; rintro _ _ ⟨rfl, rfl⟩ _ _)
        | (refine callK (d1 _ _) ?_; rintro _ _ ⟨rfl, rfl⟩ _ _)
        | (refine callK (d2 _ _) ?_; rintro _ _ ⟨rfl, rfl⟩ _ _)
        | (refine callK (cA _) ?_; rintro _ _ ⟨rfl, rfl⟩ _ _)
        | refine wb ?_ | refine wr ?_ | refine wk ?_ | refine we ?_ | refine ws ?_ | refine wq ?_
        | (refine wc rfl (fun hc => ?_) (fun hc => ?_) <;> (try simp at hc) <;> (try omega))
        | (refine ib (fun hc => ?_) (fun hc => ?_) <;> (try omega) <;> (try simp (disch := omega) only [if_pos, if_neg])))
        all_goals simp [AThen, APost, ares, aresL, ares1]
end Go.Stx
