/-
  The statement WitnessRefuses.
-/
import Derived.Test.YteedgpgpbklekaaGreatDoorWrA
import Derived.Test.YteedgpgpbklekaaGreatDoorWrB
import Derived.Test.YteedgpgpbklekaaGreatDoorEv28
namespace Go.Stx
open Go Go.Proofs
def oWrC_0 : List (Nat × Nat) := [(0, 0), (1, 0), (2, 0), (3, 0), (4, 0), (5, 0), (7, 0), (6, 2), (8, 0), (9, 3)]
attribute [local irreducible] AWP LWalk ACall ARounds lops nops
set_option linter.unusedVariables false
set_option linter.unusedSimpArgs false
set_option linter.unusedSectionVars false
set_option maxRecDepth 20000
variable [Gl]

set_option maxHeartbeats 8000000 in
theorem witnessRefuses_call (hF : FOK) (c : CfgS) (vp vk : Value) (ni ci : Nat) (oi : Option Addr) (ps : List (List InsV)) (nk : List Int) (l0 l1 l2 l3 l4 : Int) (vl vq : Value) (ls : List (List Int)) (pk : List Int) (at0 v0 : Int) (A : AW)
    (hp : IsProgs A vp ps) (hk0 : IsInts A .i64 vk nk) (hL : IsRows A vl ls) (hk : IsInts A .i64 vq pk) (hb0 : ls.length ≤ maxLen) (hpk : pk.length ≤ 17592186044415) :
    ACall Tryz.prog 3 [scV c (.slice oi ni ci) vp vk, .agg #[.int .i64 l0, .int .i64 l1, .int .i64 l2, .int .i64 l3, .int .i64 l4], vl, vq, .int .i64 at0, .int .i64 v0] A (fun u A' => u = .bool true) := by
  refine acall_intro Tryz.func3 rfl (by kernel_rfl) fun hw => ?_
  obtain ⟨op, cp, rfl, _⟩ := hp.form
  obtain ⟨okk, ckk, rfl, _⟩ := hk0.form
  have cA := fun B => awake28_call hF B
  have hcc : scCells c (.slice oi ni ci) (.slice op ps.length cp) (.slice okk nk.length ckk) = scCells c (.slice oi ni ci) (.slice op ps.length cp) (.slice okk nk.length ckk) := rfl
  revert hcc
  generalize hLs : scCells c (.slice oi ni ci) (.slice op ps.length cp) (.slice okk nk.length ckk) = Ls
  intro hcc
  have hLs2 := hLs
  have hS : scV c (.slice oi ni ci) (.slice op ps.length cp) (.slice okk nk.length ckk) = .agg Ls.toArray := by rw [← hLs]; rfl
  rw [hS]
  unfold scCells CfgS.cells at hLs
  simp only [List.cons_append, List.nil_append] at hLs
  rw [← hLs]
  repeat' (first
  | (refine lwc fun R hR => ?_; simp [wrap_i64, wrap_u64, AW.row_get, astore]; try simp (disch := omega) only [if_pos, if_neg, wrap_i64, wrap_u64])
  | (refine hR _ _ ?_; clear hR R) | (refine hK _ _ ?_; clear hK K) | refine lwn ?_ | refine lr ?_ | refine la ?_
  | refine wn fun K hK => ?_
  | simp only [wS, oWrC_0]
  | refine wl Tryz.mx oWrC_0 (by decide +kernel) fun K hK => ?_
  | refine wb ?_ | refine wr ?_ | refine wk ?_ | refine we ?_ | refine ws ?_ | refine wq ?_
  | (refine wc rfl (fun hc => ?_) (fun hc => ?_) <;> (try simp at hc) <;> (try omega))
  | (refine ib (fun hc => ?_) (fun hc => ?_) <;> (try omega) <;> (try simp (disch := omega) only [if_pos, if_neg])))
  refine (lawScript28_call hF.n l0 l1 l2 l3 l4 vl vq ls pk false _ (hL.keeps (Keeps.of_le ((AW.le.alloc A _).trans (AW.le.alloc _ _)) hw)) (hk.le ((AW.le.alloc A _).trans (AW.le.alloc _ _)) hw) hb0 hpk).mono ?_
  rintro u A3 ⟨b, c', oi', ni', ci', vp', ok', ck', us', ps', kl, hu, hP, hle3, hw3, hOwn, hkb, hfr⟩
  subst hu
  have hwA := (hw.alloc (.cells Ls true 1)).alloc (.cells [.int .i64 l0, .int .i64 l1, .int .i64 l2, .int .i64 l3, .int .i64 l4] true 1)
  rw [← hLs] at hwA
  have hbS := hle3.keep hwA (i := A.next) (o := .cells Ls true 1) (by rw [← hLs]; simp [AW.get_alloc, show ¬ A.next = A.next + 1 by omega])
  rw [← hLs] at hbS
  have hle13 := ((AW.le.alloc A _).trans (AW.le.alloc _ _)).trans hle3
  have hlt3 := hw3.lt hbS
  have hne : ¬ A3.next = A.next := by omega
  have hne2 : ¬ A.next = A3.next := by omega
  obtain ⟨op', cp', hvp', _⟩ := hP.progs.form
  subst hvp'
  have hn3 := hle3.next
  simp only [AW.alloc_next] at hn3
  have hP := hP.low (C := A.next + 2) (by simp only [AW.alloc_next]; omega)
  have hOwn := hOwn.low (C := A.next + 2) (by simp only [AW.alloc_next]; omega)
  have hfr := fun j o hj => (hfr j o hj).low (C := A.next + 2) (by simp only [AW.alloc_next]; omega)
  cases b with
  | false =>
    unfold scV scCells CfgS.cells
    simp only [List.cons_append, List.nil_append]
    repeat' (first
    | (refine lwc fun R hR => ?_; simp [wrap_i64, wrap_u64, hbS, hne, hne2, AW.row_get, astore]; try simp (disch := omega) only [if_pos, if_neg, wrap_i64, wrap_u64])
    | (refine hR _ _ ?_; clear hR R) | (refine hK _ _ ?_; clear hK K) | refine lwn ?_ | refine lr ?_ | refine la ?_
    | refine wn fun K hK => ?_
    | simp only [wS, oWrC_0]
    | refine wl Tryz.mx oWrC_0 (by decide +kernel) fun K hK => ?_
    | (refine callK (cA _) ?_; rintro _ _ ⟨rfl, rfl⟩ _ _)
    | refine wb ?_ | refine wr ?_ | refine wk ?_ | refine we ?_ | refine ws ?_ | refine wq ?_
    | (refine wc rfl (fun hc => ?_) (fun hc => ?_) <;> (try simp at hc) <;> (try omega))
    | (refine ib (fun hc => ?_) (fun hc => ?_) <;> (try omega) <;> (try simp (disch := omega) only [if_pos, if_neg])))
    all_goals simp [AThen, APost, ares, aresL, ares1]
  | true =>
    by_cases h20 : 20 < ps.length
    · unfold scV scCells CfgS.cells
      simp only [List.cons_append, List.nil_append]
      repeat' (first
      | (refine lwc fun R hR => ?_; simp [wrap_i64, wrap_u64, hbS, hne, hne2, AW.row_get, astore, h20]; try simp (disch := omega) only [if_pos, if_neg, wrap_i64, wrap_u64])
      | (refine hR _ _ ?_; clear hR R) | (refine hK _ _ ?_; clear hK K) | refine lwn ?_ | refine lr ?_ | refine la ?_
      | refine wn fun K hK => ?_
      | simp only [wS, oWrC_0]
      | refine wl Tryz.mx oWrC_0 (by decide +kernel) fun K hK => ?_
      | (refine callK (cA _) ?_; rintro _ _ ⟨rfl, rfl⟩ _ _)
      | refine wb ?_ | refine wr ?_ | refine wk ?_ | refine we ?_ | refine ws ?_ | refine wq ?_
      | (refine wc rfl (fun hc => ?_) (fun hc => ?_) <;> (try simp at hc) <;> (try omega))
      | (refine ib (fun hc => ?_) (fun hc => ?_) <;> (try omega) <;> (try simp (disch := omega) only [if_pos, if_neg])))
      all_goals simp [AThen, APost, ares, aresL, ares1]
    by_cases h80 : 80 < ni
    · unfold scV scCells CfgS.cells
      simp only [List.cons_append, List.nil_append]
      repeat' (first
      | (refine lwc fun R hR => ?_; simp [wrap_i64, wrap_u64, hbS, hne, hne2, AW.row_get, astore, h20, h80]; try simp (disch := omega) only [if_pos, if_neg, wrap_i64, wrap_u64])
      | (refine hR _ _ ?_; clear hR R) | (refine hK _ _ ?_; clear hK K) | refine lwn ?_ | refine lr ?_ | refine la ?_
      | refine wn fun K hK => ?_
      | simp only [wS, oWrC_0]
      | refine wl Tryz.mx oWrC_0 (by decide +kernel) fun K hK => ?_
      | (refine callK (cA _) ?_; rintro _ _ ⟨rfl, rfl⟩ _ _)
      | refine wb ?_ | refine wr ?_ | refine wk ?_ | refine we ?_ | refine ws ?_ | refine wq ?_
      | (refine wc rfl (fun hc => ?_) (fun hc => ?_) <;> (try simp at hc) <;> (try omega))
      | (refine ib (fun hc => ?_) (fun hc => ?_) <;> (try omega) <;> (try simp (disch := omega) only [if_pos, if_neg])))
      all_goals simp [AThen, APost, ares, aresL, ares1]
    by_cases h81 : 80 < nk.length
    · unfold scV scCells CfgS.cells
      simp only [List.cons_append, List.nil_append]
      repeat' (first
      | (refine lwc fun R hR => ?_; simp [wrap_i64, wrap_u64, hbS, hne, hne2, AW.row_get, astore, h20, h80, h81]; try simp (disch := omega) only [if_pos, if_neg, wrap_i64, wrap_u64])
      | (refine hR _ _ ?_; clear hR R) | (refine hK _ _ ?_; clear hK K) | refine lwn ?_ | refine lr ?_ | refine la ?_
      | refine wn fun K hK => ?_
      | simp only [wS, oWrC_0]
      | refine wl Tryz.mx oWrC_0 (by decide +kernel) fun K hK => ?_
      | (refine callK (cA _) ?_; rintro _ _ ⟨rfl, rfl⟩ _ _)
      | refine wb ?_ | refine wr ?_ | refine wk ?_ | refine we ?_ | refine ws ?_ | refine wq ?_
      | (refine wc rfl (fun hc => ?_) (fun hc => ?_) <;> (try simp at hc) <;> (try omega))
      | (refine ib (fun hc => ?_) (fun hc => ?_) <;> (try omega) <;> (try simp (disch := omega) only [if_pos, if_neg])))
      all_goals simp [AThen, APost, ares, aresL, ares1]
    have hS2 : scV c' (.slice oi' ni' ci') (.slice op' ps'.length cp') (.slice ok' kl.length ck') = .agg (scCells c' (.slice oi' ni' ci') (.slice op' ps'.length cp') (.slice ok' kl.length ck')).toArray := rfl
    obtain ⟨Lx, hLx⟩ : ∃ Lx, scCells c' (.slice oi' ni' ci') (.slice op' ps'.length cp') (.slice ok' kl.length ck') = Lx := ⟨_, rfl⟩
    rw [hS2, hLx]
    have hLx2 := hLx
    unfold scCells CfgS.cells at hLx
    simp only [List.cons_append, List.nil_append] at hLx
    rw [← hLx]
    by_cases hz : kl.length = 0
    · have hkl : kl = [] := List.eq_nil_of_length_eq_zero hz
      subst hkl
      simp only [List.length_nil] at hLx hOwn ⊢
      repeat' (first
      | (refine lwc fun R hR => ?_; simp [wrap_i64, wrap_u64, hbS, hne, hne2, AW.row_get, astore, h20, h80, h81]; try simp (disch := omega) only [if_pos, if_neg, wrap_i64, wrap_u64])
      | (refine hR _ _ ?_; clear hR R) | (refine hK _ _ ?_; clear hK K) | refine lwn ?_ | refine lr ?_ | refine la ?_
      | refine wn fun K hK => ?_
      | simp only [wS, oWrC_0]
      | refine wl Tryz.mx oWrC_0 (by decide +kernel) fun K hK => ?_
      | refine wb ?_ | refine wr ?_ | refine wk ?_ | refine we ?_ | refine ws ?_ | refine wq ?_
      | (refine wc rfl (fun hc => ?_) (fun hc => ?_) <;> (try simp at hc) <;> (try omega))
      | (refine ib (fun hc => ?_) (fun hc => ?_) <;> (try omega) <;> (try simp (disch := omega) only [if_pos, if_neg])))
      refine awp_gen (fun A6 => A6.get (A3.next + 1) = some (.cells (scCells c (.slice oi ni ci) (.slice op ps.length cp) (.slice okk nk.length ckk) ++ scCells c' (.slice oi' ni' ci') (.slice op' ps'.length cp') (.slice ok' 0 ck')) true 16) ∧
        IsProgs A6 (.slice op ps.length cp) ps ∧ IsInts A6 .i64 (.slice okk nk.length ckk) nk ∧ IsProgs A6 (.slice op' ps'.length cp') ps' ∧ IsInts A6 .i64 (.slice ok' 0 ck') []) ?_ ?_
      · have hleM := fun O O' O'' => (AW.le.upd A3 O O').trans (AW.le.alloc _ O'')
        exact ⟨by simp [AW.get_alloc, scCells, CfgS.cells], hp.le (hle13.trans (hleM _ _ _)) hw, hk0.le (hle13.trans (hleM _ _ _)) hw, hP.progs.le (hleM _ _ _) hw3, IsInts.le (hleM _ _ _) hw3 hOwn.is⟩
      rintro A6 ⟨hrow6, p1, p2, q1, q2⟩
      have d1 := refScript_call hF.n c (.slice oi ni ci) (.slice op ps.length cp) (.slice okk nk.length ckk) ni ci oi ps nk A6 rfl p1 p2
      have d2 := refScript_call hF.n c' (.slice oi' ni' ci') (.slice op' ps'.length cp') (.slice ok' 0 ck') ni' ci' oi' ps' ([] : List Int) A6 rfl q1 q2
      have e1 := choicesErr_call hF c (.slice oi ni ci) (.slice op ps.length cp) (.slice okk nk.length ckk) ni ci oi ps nk A6 rfl p1 p2
      have e2 := choicesErr_call hF c' (.slice oi' ni' ci') (.slice op' ps'.length cp') (.slice ok' 0 ck') ni' ci' oi' ps' ([] : List Int) A6 rfl q1 q2
      have f1 := checkErr_call hF c (.slice oi ni ci) (.slice op ps.length cp) (.slice okk nk.length ckk) ni ci oi ps nk A6 rfl p1 p2
      have f2 := checkErr_call hF c' (.slice oi' ni' ci') (.slice op' ps'.length cp') (.slice ok' 0 ck') ni' ci' oi' ps' ([] : List Int) A6 rfl q1 q2
      generalize scriptErr c ni ps nk = r1 at d1 e1 f1
      generalize scriptErr c' ni' ps' ([] : List Int) = r2 at d2 e2 f2
      obtain ⟨r11, r12, r13⟩ := r1
      obtain ⟨r21, r22, r23⟩ := r2
      simp only at e1 e2 f1 f2
      obtain ⟨wds, ords, bas, c0, c1, c2, c3, rds, wrs, als, fre, clk, stg⟩ := c
      obtain ⟨d0', d1', d2', d3', d4', d5', d6', d7', d8', d9', d10', d11', d12'⟩ := c'
      unfold scV scCells CfgS.cells errV3 at d1 d2
      unfold scV scCells CfgS.cells at e1 e2
      unfold scV scCells CfgS.cells errV3 at f1 f2
      unfold scCells CfgS.cells at hrow6
      simp only [List.cons_append, List.nil_append] at d1 d2 e1 e2 f1 f2 hrow6
      refine awp_rounds 3 ?_
      by_cases z1 : r13 = 0
      · by_cases z2 : r23 = 0
        · repeat' (first
        | (refine lwc fun R hR => ?_; simp [wrap_i64, wrap_u64, hrow6, AW.row_get, z1, z2]; try simp (disch := omega) only [if_pos, if_neg, wrap_i64, wrap_u64])
        | (refine hR _ _ ?_; clear hR R) | (refine hK _ _ ?_; clear hK K) | refine lwn ?_ | refine lr ?_ | refine la ?_
        | refine wn fun K hK => ?_
        | simp only [wS, oWrC_0]
        | refine wl Tryz.mx oWrC_0 (by decide +kernel) fun K hK => ?_
        | (refine callK (d1) ?_; rintro _ _ ⟨rfl, rfl⟩ _ _)
        | (refine callK (d2) ?_; rintro _ _ ⟨rfl, rfl⟩ _ _)
        | (refine callK (cA _) ?_; rintro _ _ ⟨rfl, rfl⟩ _ _)
        | refine wb ?_ | refine wr ?_ | refine wk ?_ | refine we ?_ | refine ws ?_ | refine wq ?_
        | (refine wc rfl (fun hc => ?_) (fun hc => ?_) <;> (try simp at hc) <;> (try omega))
        | (refine ib (fun hc => ?_) (fun hc => ?_) <;> (try omega) <;> (try simp (disch := omega) only [if_pos, if_neg])))
          all_goals simp [AThen, APost, ares, aresL, ares1]
        · repeat' (first
        | (refine lwc fun R hR => ?_; simp [wrap_i64, wrap_u64, hrow6, AW.row_get, z1, z2]; try simp (disch := omega) only [if_pos, if_neg, wrap_i64, wrap_u64])
        | (refine hR _ _ ?_; clear hR R) | (refine hK _ _ ?_; clear hK K) | refine lwn ?_ | refine lr ?_ | refine la ?_
        | refine wn fun K hK => ?_
        | simp only [wS, oWrC_0]
        | refine wl Tryz.mx oWrC_0 (by decide +kernel) fun K hK => ?_
        | (refine callK (d1) ?_; rintro _ _ ⟨rfl, rfl⟩ _ _)
        | (refine callK (d2) ?_; rintro _ _ ⟨rfl, rfl⟩ _ _)
        | (refine callK (e2 z2) ?_; rintro _ _ ⟨rfl, rfl⟩ _ _)
        | (refine callK (f2 z2) ?_; rintro _ _ ⟨rfl, rfl⟩ _ _)
        | (refine callK (cA _) ?_; rintro _ _ ⟨rfl, rfl⟩ _ _)
        | refine wb ?_ | refine wr ?_ | refine wk ?_ | refine we ?_ | refine ws ?_ | refine wq ?_
        | (refine wc rfl (fun hc => ?_) (fun hc => ?_) <;> (try simp at hc) <;> (try omega))
        | (refine ib (fun hc => ?_) (fun hc => ?_) <;> (try omega) <;> (try simp (disch := omega) only [if_pos, if_neg])))
          all_goals simp [AThen, APost, ares, aresL, ares1]
      · by_cases z2 : r23 = 0
        · repeat' (first
        | (refine lwc fun R hR => ?_; simp [wrap_i64, wrap_u64, hrow6, AW.row_get, z1, z2]; try simp (disch := omega) only [if_pos, if_neg, wrap_i64, wrap_u64])
        | (refine hR _ _ ?_; clear hR R) | (refine hK _ _ ?_; clear hK K) | refine lwn ?_ | refine lr ?_ | refine la ?_
        | refine wn fun K hK => ?_
        | simp only [wS, oWrC_0]
        | refine wl Tryz.mx oWrC_0 (by decide +kernel) fun K hK => ?_
        | (refine callK (d1) ?_; rintro _ _ ⟨rfl, rfl⟩ _ _)
        | (refine callK (d2) ?_; rintro _ _ ⟨rfl, rfl⟩ _ _)
        | (refine callK (e1 z1) ?_; rintro _ _ ⟨rfl, rfl⟩ _ _)
        | (refine callK (f1 z1) ?_; rintro _ _ ⟨rfl, rfl⟩ _ _)
        | (refine callK (cA _) ?_; rintro _ _ ⟨rfl, rfl⟩ _ _)
        | refine wb ?_ | refine wr ?_ | refine wk ?_ | refine we ?_ | refine ws ?_ | refine wq ?_
        | (refine wc rfl (fun hc => ?_) (fun hc => ?_) <;> (try simp at hc) <;> (try omega))
        | (refine ib (fun hc => ?_) (fun hc => ?_) <;> (try omega) <;> (try simp (disch := omega) only [if_pos, if_neg])))
          all_goals simp [AThen, APost, ares, aresL, ares1]
        · repeat' (first
        | (refine lwc fun R hR => ?_; simp [wrap_i64, wrap_u64, hrow6, AW.row_get, z1, z2]; try simp (disch := omega) only [if_pos, if_neg, wrap_i64, wrap_u64])
        | (refine hR _ _ ?_; clear hR R) | (refine hK _ _ ?_; clear hK K) | refine lwn ?_ | refine lr ?_ | refine la ?_
        | refine wn fun K hK => ?_
        | simp only [wS, oWrC_0]
        | refine wl Tryz.mx oWrC_0 (by decide +kernel) fun K hK => ?_
        | (refine callK (d1) ?_; rintro _ _ ⟨rfl, rfl⟩ _ _)
        | (refine callK (d2) ?_; rintro _ _ ⟨rfl, rfl⟩ _ _)
        | (refine callK (e1 z1) ?_; rintro _ _ ⟨rfl, rfl⟩ _ _)
        | (refine callK (f1 z1) ?_; rintro _ _ ⟨rfl, rfl⟩ _ _)
        | (refine callK (e2 z2) ?_; rintro _ _ ⟨rfl, rfl⟩ _ _)
        | (refine callK (f2 z2) ?_; rintro _ _ ⟨rfl, rfl⟩ _ _)
        | (refine callK (cA _) ?_; rintro _ _ ⟨rfl, rfl⟩ _ _)
        | refine wb ?_ | refine wr ?_ | refine wk ?_ | refine we ?_ | refine ws ?_ | refine wq ?_
        | (refine wc rfl (fun hc => ?_) (fun hc => ?_) <;> (try simp at hc) <;> (try omega))
        | (refine ib (fun hc => ?_) (fun hc => ?_) <;> (try omega) <;> (try simp (disch := omega) only [if_pos, if_neg])))
          all_goals simp [AThen, APost, ares, aresL, ares1]
    · rcases hOwn with ⟨_, h0, _⟩ | ⟨p, cc, row, e, h2, hs, h3, h4, h5, h6⟩
      · exact absurd h0 hz
      injection e with e1 e2 e3
      subst e1
      subst e3
      obtain ⟨kn, hkn, hknl⟩ : ∃ kn : Nat, placeF at0 kl.length = kn ∧ kn < kl.length := by
        have := placeF_range at0 kl.length (by omega)
        exact ⟨(placeF at0 kl.length).toNat, by omega, by omega⟩
      have cP := fun B => place_call at0 (kl.length : Int) B (by omega) (by omega)
      rw [hkn] at cP
      have hlp := hw3.lt h4
      have n1 : ¬ p.block = A3.next := by omega
      have n2 : ¬ A3.next = p.block := by omega
      have n3 : ¬ p.block = A.next := by omega
      have n4 : ¬ A.next = p.block := by omega
      have hpos : 0 < kl.length := by omega
      have hro : p.off + kn + 1 ≤ row.length := by omega
      repeat' (first
      | (refine lwc fun R hR => ?_; simp [wrap_i64, wrap_u64, hbS, hne, hne2, AW.row_get, astore, h20, h80, h81, hpos, hknl, h4, hs, n1, n2, n3, n4, hro]; try simp (disch := omega) only [if_pos, if_neg, wrap_i64, wrap_u64])
      | (refine hR _ _ ?_; clear hR R) | (refine hK _ _ ?_; clear hK K) | refine lwn ?_ | refine lr ?_ | refine la ?_
      | refine wn fun K hK => ?_
      | simp only [wS, oWrC_0]
      | refine wl Tryz.mx oWrC_0 (by decide +kernel) fun K hK => ?_
      | (refine callK (cP _) ?_; rintro _ _ ⟨rfl, rfl⟩ _ _)
      | refine wb ?_ | refine wr ?_ | refine wk ?_ | refine we ?_ | refine ws ?_ | refine wq ?_
      | (refine wc rfl (fun hc => ?_) (fun hc => ?_) <;> (try simp at hc) <;> (try omega))
      | (refine ib (fun hc => ?_) (fun hc => ?_) <;> (try omega) <;> (try simp (disch := omega) only [if_pos, if_neg])))
      have hfrp := hfr p.block (some (.cells (row.set (p.off + kn) (.int .i64 v0)) true 1)) rfl
      have hwp : (A3.set p.block (some (.cells (row.set (p.off + kn) (.int .i64 v0)) true 1))).Wf := hw3.set _ hlp
      have hOp : OwnSl (A.next + 2) (A3.set p.block (some (.cells (row.set (p.off + kn) (.int .i64 v0)) true 1))) 1 (.slice (some p) kl.length ck') (kl.set kn v0).length ((kl.set kn v0).map (Value.int .i64)) := by
        refine .inr ⟨p, ck', row.set (p.off + kn) (.int .i64 v0), by simp, by simpa using h2, hs, h3, AW.set_get_same, by simpa using h5, ?_⟩
        rw [List.map_set, h6, List.drop_set, if_neg (by omega), List.take_set, show p.off + kn - p.off = kn by omega]
        simp
      refine awp_gen (fun A6 => A6.get (A3.next + 1) = some (.cells (scCells c (.slice oi ni ci) (.slice op ps.length cp) (.slice okk nk.length ckk) ++ scCells c' (.slice oi' ni' ci') (.slice op' ps'.length cp') (.slice (some p) kl.length ck')) true 16) ∧
        IsProgs A6 (.slice op ps.length cp) ps ∧ IsInts A6 .i64 (.slice okk nk.length ckk) nk ∧ IsProgs A6 (.slice op' ps'.length cp') ps' ∧ IsInts A6 .i64 (.slice (some p) kl.length ck') (kl.set kn v0)) ?_ ?_
      · have hM : ∀ O O' O3 j, j < A3.next → ((((A3.alloc O).set A3.next O').set p.block (some (.cells (row.set (p.off + kn) (.int .i64 v0)) true 1))).alloc O3).get j = (A3.set p.block (some (.cells (row.set (p.off + kn) (.int .i64 v0)) true 1))).get j := fun O O' O3 j hj => by
          rw [AW.alloc_get_old _ _ (by simp only [AW.set_next, AW.alloc_next]; omega)]
          by_cases e : j = p.block
          · subst e
            rw [AW.set_get_same, AW.set_get_same]
          · rw [AW.set_get_ne e, AW.set_get_ne e, AW.set_get_ne (by omega), AW.alloc_get_old _ _ (by omega)]
        have hleA := fun O O' O3 => ((hle13.trans (AW.le.upd A3 O O')).set (show A.next ≤ p.block by omega) (some (.cells (row.set (p.off + kn) (.int .i64 v0)) true 1))).trans (AW.le.alloc _ O3)
        refine ⟨by simp [AW.get_alloc, scCells, CfgS.cells], hp.le (hleA _ _ _) hw, hk0.le (hleA _ _ _) hw, ?_, ?_⟩
        · exact (hfrp.other (fun j h1 h2 => hM _ _ _ j h2) hwp).progs
        · unfold IsInts
          exact (hOp.other (fun j hj => hM _ _ _ j (hOp.lt hwp hj).2)).is
      rintro A6 ⟨hrow6, p1, p2, q1, q2⟩
      have d1 := refScript_call hF.n c (.slice oi ni ci) (.slice op ps.length cp) (.slice okk nk.length ckk) ni ci oi ps nk A6 rfl p1 p2
      have d2 := refScript_call hF.n c' (.slice oi' ni' ci') (.slice op' ps'.length cp') (.slice (some p) kl.length ck') ni' ci' oi' ps' (kl.set kn v0) A6 rfl q1 q2
      have e1 := choicesErr_call hF c (.slice oi ni ci) (.slice op ps.length cp) (.slice okk nk.length ckk) ni ci oi ps nk A6 rfl p1 p2
      have e2 := choicesErr_call hF c' (.slice oi' ni' ci') (.slice op' ps'.length cp') (.slice (some p) kl.length ck') ni' ci' oi' ps' (kl.set kn v0) A6 rfl q1 q2
      have f1 := checkErr_call hF c (.slice oi ni ci) (.slice op ps.length cp) (.slice okk nk.length ckk) ni ci oi ps nk A6 rfl p1 p2
      have f2 := checkErr_call hF c' (.slice oi' ni' ci') (.slice op' ps'.length cp') (.slice (some p) kl.length ck') ni' ci' oi' ps' (kl.set kn v0) A6 rfl q1 q2
      generalize scriptErr c ni ps nk = r1 at d1 e1 f1
      generalize scriptErr c' ni' ps' (kl.set kn v0) = r2 at d2 e2 f2
      obtain ⟨r11, r12, r13⟩ := r1
      obtain ⟨r21, r22, r23⟩ := r2
      simp only at e1 e2 f1 f2
      obtain ⟨wds, ords, bas, c0, c1, c2, c3, rds, wrs, als, fre, clk, stg⟩ := c
      obtain ⟨d0', d1', d2', d3', d4', d5', d6', d7', d8', d9', d10', d11', d12'⟩ := c'
      unfold scV scCells CfgS.cells errV3 at d1 d2
      unfold scV scCells CfgS.cells at e1 e2
      unfold scV scCells CfgS.cells errV3 at f1 f2
      unfold scCells CfgS.cells at hrow6
      simp only [List.cons_append, List.nil_append] at d1 d2 e1 e2 f1 f2 hrow6
      refine awp_rounds 3 ?_
      by_cases z1 : r13 = 0
      · by_cases z2 : r23 = 0
        · repeat' (first
        | (refine lwc fun R hR => ?_; simp [wrap_i64, wrap_u64, hrow6, AW.row_get, z1, z2]; try simp (disch := omega) only [if_pos, if_neg, wrap_i64, wrap_u64])
        | (refine hR _ _ ?_; clear hR R) | (refine hK _ _ ?_; clear hK K) | refine lwn ?_ | refine lr ?_ | refine la ?_
        | refine wn fun K hK => ?_
        | simp only [wS, oWrC_0]
        | refine wl Tryz.mx oWrC_0 (by decide +kernel) fun K hK => ?_
        | (refine callK (d1) ?_; rintro _ _ ⟨rfl, rfl⟩ _ _)
        | (refine callK (d2) ?_; rintro _ _ ⟨rfl, rfl⟩ _ _)
        | (refine callK (cA _) ?_; rintro _ _ ⟨rfl, rfl⟩ _ _)
        | refine wb ?_ | refine wr ?_ | refine wk ?_ | refine we ?_ | refine ws ?_ | refine wq ?_
        | (refine wc rfl (fun hc => ?_) (fun hc => ?_) <;> (try simp at hc) <;> (try omega))
        | (refine ib (fun hc => ?_) (fun hc => ?_) <;> (try omega) <;> (try simp (disch := omega) only [if_pos, if_neg])))
          all_goals simp [AThen, APost, ares, aresL, ares1]
        · repeat' (first
        | (refine lwc fun R hR => ?_; simp [wrap_i64, wrap_u64, hrow6, AW.row_get, z1, z2]; try simp (disch := omega) only [if_pos, if_neg, wrap_i64, wrap_u64])
        | (refine hR _ _ ?_; clear hR R) | (refine hK _ _ ?_; clear hK K) | refine lwn ?_ | refine lr ?_ | refine la ?_
        | refine wn fun K hK => ?_
        | simp only [wS, oWrC_0]
        | refine wl Tryz.mx oWrC_0 (by decide +kernel) fun K hK => ?_
        | (refine callK (d1) ?_; rintro _ _ ⟨rfl, rfl⟩ _ _)
        | (refine callK (d2) ?_; rintro _ _ ⟨rfl, rfl⟩ _ _)
        | (refine callK (e2 z2) ?_; rintro _ _ ⟨rfl, rfl⟩ _ _)
        | (refine callK (f2 z2) ?_; rintro _ _ ⟨rfl, rfl⟩ _ _)
        | (refine callK (cA _) ?_; rintro _ _ ⟨rfl, rfl⟩ _ _)
        | refine wb ?_ | refine wr ?_ | refine wk ?_ | refine we ?_ | refine ws ?_ | refine wq ?_
        | (refine wc rfl (fun hc => ?_) (fun hc => ?_) <;> (try simp at hc) <;> (try omega))
        | (refine ib (fun hc => ?_) (fun hc => ?_) <;> (try omega) <;> (try simp (disch := omega) only [if_pos, if_neg])))
          all_goals simp [AThen, APost, ares, aresL, ares1]
      · by_cases z2 : r23 = 0
        · repeat' (first
        | (refine lwc fun R hR => ?_; simp [wrap_i64, wrap_u64, hrow6, AW.row_get, z1, z2]; try simp (disch := omega) only [if_pos, if_neg, wrap_i64, wrap_u64])
        | (refine hR _ _ ?_; clear hR R) | (refine hK _ _ ?_; clear hK K) | refine lwn ?_ | refine lr ?_ | refine la ?_
        | refine wn fun K hK => ?_
        | simp only [wS, oWrC_0]
        | refine wl Tryz.mx oWrC_0 (by decide +kernel) fun K hK => ?_
        | (refine callK (d1) ?_; rintro _ _ ⟨rfl, rfl⟩ _ _)
        | (refine callK (d2) ?_; rintro _ _ ⟨rfl, rfl⟩ _ _)
        | (refine callK (e1 z1) ?_; rintro _ _ ⟨rfl, rfl⟩ _ _)
        | (refine callK (f1 z1) ?_; rintro _ _ ⟨rfl, rfl⟩ _ _)
        | (refine callK (cA _) ?_; rintro _ _ ⟨rfl, rfl⟩ _ _)
        | refine wb ?_ | refine wr ?_ | refine wk ?_ | refine we ?_ | refine ws ?_ | refine wq ?_
        | (refine wc rfl (fun hc => ?_) (fun hc => ?_) <;> (try simp at hc) <;> (try omega))
        | (refine ib (fun hc => ?_) (fun hc => ?_) <;> (try omega) <;> (try simp (disch := omega) only [if_pos, if_neg])))
          all_goals simp [AThen, APost, ares, aresL, ares1]
        · repeat' (first
        | (refine lwc fun R hR => ?_; simp [wrap_i64, wrap_u64, hrow6, AW.row_get, z1, z2]; try simp (disch := omega) only [if_pos, if_neg, wrap_i64, wrap_u64])
        | (refine hR _ _ ?_; clear hR R) | (refine hK _ _ ?_; clear hK K) | refine lwn ?_ | refine lr ?_ | refine la ?_
        | refine wn fun K hK => ?_
        | simp only [wS, oWrC_0]
        | refine wl Tryz.mx oWrC_0 (by decide +kernel) fun K hK => ?_
        | (refine callK (d1) ?_; rintro _ _ ⟨rfl, rfl⟩ _ _)
        | (refine callK (d2) ?_; rintro _ _ ⟨rfl, rfl⟩ _ _)
        | (refine callK (e1 z1) ?_; rintro _ _ ⟨rfl, rfl⟩ _ _)
        | (refine callK (f1 z1) ?_; rintro _ _ ⟨rfl, rfl⟩ _ _)
        | (refine callK (e2 z2) ?_; rintro _ _ ⟨rfl, rfl⟩ _ _)
        | (refine callK (f2 z2) ?_; rintro _ _ ⟨rfl, rfl⟩ _ _)
        | (refine callK (cA _) ?_; rintro _ _ ⟨rfl, rfl⟩ _ _)
        | refine wb ?_ | refine wr ?_ | refine wk ?_ | refine we ?_ | refine ws ?_ | refine wq ?_
        | (refine wc rfl (fun hc => ?_) (fun hc => ?_) <;> (try simp at hc) <;> (try omega))
        | (refine ib (fun hc => ?_) (fun hc => ?_) <;> (try omega) <;> (try simp (disch := omega) only [if_pos, if_neg])))
          all_goals simp [AThen, APost, ares, aresL, ares1]
end Go.Stx
