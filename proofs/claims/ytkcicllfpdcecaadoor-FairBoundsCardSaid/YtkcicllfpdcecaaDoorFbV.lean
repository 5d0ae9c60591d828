/-
  The bound of a script, the document's side.
-/
import Derived.Test.YtkcicllfpdcecaaDoorFbU
namespace Go.Stx
open Go Go.Proofs
def oFbV_0 : List (Nat × Nat) := [(0, 0), (1, 0), (3, 0), (4, 0), (5, 0), (2, 2), (6, 2), (7, 0), (8, 0), (9, 0), (10, 0), (11, 0)]
def oFbV_1 : List (Nat × Nat) := [(0, 0), (1, 0), (2, 0), (3, 0), (4, 0), (5, 0), (6, 0), (7, 0), (8, 0), (9, 0), (10, 0), (11, 0), (12, 0), (13, 0), (14, 0), (15, 0), (16, 0), (17, 0), (18, 0), (19, 0), (20, 0), (21, 0), (22, 0)]
attribute [local irreducible] AWP LWalk ACall ARounds lops nops
set_option linter.unusedVariables false
set_option linter.unusedSimpArgs false
set_option linter.unusedSectionVars false
set_option maxRecDepth 20000
variable [Gl]

set_option maxHeartbeats 8000000 in
theorem refBound_call (hn : Gl.N = 4) (c : CfgS) (vp vk : Value) (ni ci : Nat) (oi ok : Option Addr) (nk ck : Nat) (ps : List (List InsV)) (w : Int) (A : AW) (hp : IsProgs A vp ps) :
    ACall Tryd.prog 8 [scV c (.slice oi ni ci) vp (.slice ok nk ck), .int .i64 w] A (fun u A' => u = boundV (boundF c ni ps w) ∧ A = A') := by
  refine ACall.gc0 (V := boundV (boundF c ni ps w)) (VBelow.tuple (by simp)) (fun hw => ?_) (by kernel_rfl)
  refine acall_intro Tryd.func8 rfl (by kernel_rfl) fun _ => ?_
  obtain ⟨op, cp, rfl, _⟩ := hp.form
  have cR := fun O => bare_call c oi op ok ni ci ps.length cp nk ck (A.alloc O)
  have leB := fun O L K => (AW.le.alloc A O).trans (bareM_le (A.alloc O) L K)
  have cS := fun O L K => refScript_call hn c _ _ _ ni ci oi ps [] (bareM (A.alloc O) L K) rfl (hp.le (leB O L K) hw) (IsInts.nil _ _)
  have hall := @allS_range _ c ps.length ps
  have hok := @scriptErr_ok _ c ni ps []
  obtain ⟨V, hV⟩ : ∃ V, boundF c ni ps w = V := ⟨_, rfl⟩
  rw [hV]
  unfold boundF at hV
  unfold errV3 at cS
  generalize scriptErr c ni ps [] = se at cS hV hok
  have hsA : ∀ t, allS c ps.length ps (t + 1) = allS c ps.length ps t + match ps[t]? with
    | some p => stepsF c ps.length p
    | none => 0 := fun _ => rfl
  have hsR := fun p h0 hv => @stepsF_range _ c ps.length p h0 hv
  have hs0 : allS c ps.length ps 0 = 0 := rfl
  generalize allS c ps.length ps = al at hV hall hsA hs0
  have hst : ∀ p, stepsF c ps.length p = longF p * (1 + ps.length + 3 * blocksF c) + sumB c p p.length := fun _ => rfl
  have cB := fun B => refBlocks_call c B
  have hbr := blocksF_range c
  have hBT := fun p h0 hv i x hx h7 => @begT_range _ c p h0 hv i x hx h7
  have hSR := fun p h0 hv => @sumB_range _ c p h0 hv
  have hsB : ∀ p i, sumB c p (i + 1) = sumB c p i + match p[i]? with
    | some x => if x.op = 7 then begT c p i x.imm else 0
    | none => 0 := fun _ _ => rfl
  have hsB0 : ∀ p, sumB c p 0 = 0 := fun _ => rfl
  have hbg : ∀ p i imm, begT c p i imm = imm * (10 + 4 * (commitF p i - i + 1) + 4 * c.writes + c.reads + 3 * c.allocs) := fun _ _ _ => rfl
  have hcok := @cfgErr_ok _ c
  generalize cfgErr c = cer at hok hall hsR hcok hBT hSR
  generalize blocksF c = bl at cB hst hbr
  generalize sumB c = sm at hst hsB hsB0 hSR
  generalize begT c = bt at hBT hsB hbg
  generalize stepsF c ps.length = sF at hsA hsR hst
  obtain ⟨st, sa, e⟩ := se
  obtain ⟨wds, ords, bas, c0, c1, c2, c3, rds, wrs, als, fre, clk, stg⟩ := c
  unfold scV scCells at cS cR ⊢
  simp only [CfgS.v, CfgS.cells, List.cons_append, List.nil_append] at cS cR cB ⊢
  simp only at hV hok hbg hcok
  have leU := fun O L K O' O'' => (leB O L K).trans (AW.le.upd (bareM (A.alloc O) L K) O' O'')
  by_cases e0 : e = 0
  rotate_left
  · rw [if_pos e0] at hV
    repeat' (first
    | (refine lwc fun R hR => ?_; simp [wrap_i64, wrap_u64, AW.row_get, astore, e0]; try simp (disch := omega) only [if_pos, if_neg, wrap_i64, wrap_u64])
    | (refine hR _ _ ?_; clear hR R) | (refine hK _ _ ?_; clear hK K) | refine lwn ?_ | refine lr ?_ | refine la ?_
    | refine wn fun K hK => ?_
    | simp only [wS, oFbV_0, oFbV_1]
    | refine wl Tryd.mx oFbV_0 (by decide +kernel) fun K hK => ?_
    | refine wl Tryd.mx oFbV_1 (by decide +kernel) fun K hK => ?_
    | (refine callK (cR _) ?_; rintro _ _ ⟨rfl, rfl⟩ _ _)
    | (refine callK (cS _ _ _) ?_; rintro _ _ ⟨rfl, rfl⟩ _ _)
    | refine wb ?_ | refine wr ?_ | refine wk ?_ | refine we ?_ | refine ws ?_ | refine wq ?_
    | (refine wc rfl (fun hc => ?_) (fun hc => ?_) <;> (try simp at hc) <;> (try omega))
    | (refine ib (fun hc => ?_) (fun hc => ?_) <;> (try omega) <;> (try simp (disch := omega) only [if_pos, if_neg])))
    all_goals first | exact leB _ _ _ | (simp [AThen, APost, ares, aresL, ares1, boundV, ← hV] <;> exact leB _ _ _)
  subst e0
  obtain ⟨k0, ⟨k1, k2⟩, k3, k4⟩ := hok rfl
  rw [if_neg (by simp)] at hV
  have hgB : ∀ O L K, (bareM (A.alloc O) L K).get A.next = some O := fun O L K => by
    have h1 := (bareM_le (A.alloc O) L K).keep (hw.alloc O) (i := A.next) (o := O) (by simp)
    exact h1
  have hnB : ∀ O L K, (bareM (A.alloc O) L K).next = A.next + 3 := fun O L K => by simp [bareM]
  cases stg with
  | true =>
    rw [if_pos rfl] at hV
    repeat' (first
    | (refine lwc fun R hR => ?_; simp [wrap_i64, wrap_u64, AW.row_get, astore, hgB]; try simp (disch := omega) only [if_pos, if_neg, wrap_i64, wrap_u64])
    | (refine hR _ _ ?_; clear hR R) | (refine hK _ _ ?_; clear hK K) | refine lwn ?_ | refine lr ?_ | refine la ?_
    | refine wn fun K hK => ?_
    | simp only [wS, oFbV_0, oFbV_1]
    | refine wl Tryd.mx oFbV_0 (by decide +kernel) fun K hK => ?_
    | refine wl Tryd.mx oFbV_1 (by decide +kernel) fun K hK => ?_
    | (refine callK (cR _) ?_; rintro _ _ ⟨rfl, rfl⟩ _ _)
    | (refine callK (cS _ _ _) ?_; rintro _ _ ⟨rfl, rfl⟩ _ _)
    | refine wb ?_ | refine wr ?_ | refine wk ?_ | refine we ?_ | refine ws ?_ | refine wq ?_
    | (refine wc rfl (fun hc => ?_) (fun hc => ?_) <;> (try simp at hc) <;> (try omega))
    | (refine ib (fun hc => ?_) (fun hc => ?_) <;> (try omega) <;> (try simp (disch := omega) only [if_pos, if_neg])))
    all_goals first | exact leB _ _ _ | (simp [AThen, APost, ares, aresL, ares1, boundV, ← hV] <;> exact leB _ _ _)
  | false =>
    rw [if_neg (by simp)] at hV
    have cP := fun B => win_call ps.length w B
    by_cases w0 : (ps.length : Int) ≤ w ∧ w ≤ 1000
    rotate_left
    · rw [if_pos w0] at hV
      simp only [w0, decide_false] at cP
      repeat' (first
      | (refine lwc fun R hR => ?_; simp [wrap_i64, wrap_u64, AW.row_get, astore, hgB]; try simp (disch := omega) only [if_pos, if_neg, wrap_i64, wrap_u64])
      | (refine hR _ _ ?_; clear hR R) | (refine hK _ _ ?_; clear hK K) | refine lwn ?_ | refine lr ?_ | refine la ?_
      | refine wn fun K hK => ?_
      | simp only [wS, oFbV_0, oFbV_1]
      | refine wl Tryd.mx oFbV_0 (by decide +kernel) fun K hK => ?_
      | refine wl Tryd.mx oFbV_1 (by decide +kernel) fun K hK => ?_
      | (refine callK (cR _) ?_; rintro _ _ ⟨rfl, rfl⟩ _ _)
      | (refine callK (cS _ _ _) ?_; rintro _ _ ⟨rfl, rfl⟩ _ _)
      | (refine callK (cP _) ?_; rintro _ _ ⟨rfl, rfl⟩ _ _)
      | refine wb ?_ | refine wr ?_ | refine wk ?_ | refine we ?_ | refine ws ?_ | refine wq ?_
      | (refine wc rfl (fun hc => ?_) (fun hc => ?_) <;> (try simp at hc) <;> (try omega))
      | (refine ib (fun hc => ?_) (fun hc => ?_) <;> (try omega) <;> (try simp (disch := omega) only [if_pos, if_neg])))
      all_goals first | exact leB _ _ _ | (simp [AThen, APost, ares, aresL, ares1, boundV, ← hV] <;> exact leB _ _ _)
    rw [if_neg (by simpa using w0)] at hV
    simp only [w0, decide_true, and_self] at cP
    repeat' (first
    | (refine lwc fun R hR => ?_; simp [wrap_i64, wrap_u64, AW.row_get, astore, hgB, hnB]; try simp (disch := omega) only [if_pos, if_neg, wrap_i64, wrap_u64])
    | (refine hR _ _ ?_; clear hR R) | (refine hK _ _ ?_; clear hK K) | refine lwn ?_ | refine lr ?_ | refine la ?_
    | refine wn fun K hK => ?_
    | simp only [wS, oFbV_0, oFbV_1]
    | refine wl Tryd.mx oFbV_0 (by decide +kernel) fun K hK => ?_
    | refine wl Tryd.mx oFbV_1 (by decide +kernel) fun K hK => ?_
    | (refine callK (cR _) ?_; rintro _ _ ⟨rfl, rfl⟩ _ _)
    | (refine callK (cS _ _ _) ?_; rintro _ _ ⟨rfl, rfl⟩ _ _)
    | (refine callK (cP _) ?_; rintro _ _ ⟨rfl, rfl⟩ _ _)
    | refine wb ?_ | refine wr ?_ | refine wk ?_ | refine we ?_ | refine ws ?_ | refine wq ?_
    | (refine wc rfl (fun hc => ?_) (fun hc => ?_) <;> (try simp at hc) <;> (try omega))
    | (refine ib (fun hc => ?_) (fun hc => ?_) <;> (try omega) <;> (try simp (disch := omega) only [if_pos, if_neg])))
    refine awp_gen (fun A1 => A.le A1 ∧ A1.get A.next = some (.cells [.int .i64 wds, .int .i64 ords, .int .i64 bas, .int .i64 c0, .int .i64 c1, .int .i64 c2, .int .i64 c3, .int .i64 rds, .int .i64 wrs, .int .i64 als, .int .i64 fre, .int .i64 clk, .bool false, .slice oi ni ci, .slice op ps.length cp, .slice ok nk ck] true 1) ∧
      A1.get (A.next + 3) = some (.cells [.int .i64 wds, .int .i64 ords, .int .i64 bas, .int .i64 c0, .int .i64 c1, .int .i64 c2, .int .i64 c3, .int .i64 rds, .int .i64 wrs, .int .i64 als, .int .i64 fre, .int .i64 clk, .bool false] true 1)) ?_ ?_
    · have hl := leU (.cells [.int .i64 wds, .int .i64 ords, .int .i64 bas, .int .i64 c0, .int .i64 c1, .int .i64 c2, .int .i64 c3, .int .i64 rds, .int .i64 wrs, .int .i64 als, .int .i64 fre, .int .i64 clk, .bool false, .slice oi ni ci, .slice op ps.length cp, .slice ok nk ck] true 1)
      simp only [hnB] at hl
      have hne : ¬ A.next = A.next + 3 := by omega
      exact ⟨hl _ _ _ _, by simp [AW.get_set, AW.get_alloc, hgB, hnB, hne], by simp⟩
    rintro A1 ⟨hleO, hgO, hgC⟩
    have hrO := AW.row_of hgO
    have hrC := AW.row_of hgC
    have hal := hall k0 k2 k4
    obtain ⟨b1, b2, b3, b4⟩ := hcok k0
    have hw4 : IntKind.i64.wrap (4 * w) = 4 * w := wrap_i64 (by omega) (by omega)
    refine awp_loop (fun k fr A' => A1 = A' ∧ ∃ i : Nat, k = ps.length - i ∧ i ≤ ps.length ∧ fr 1 = .int .i64 w ∧ fr 2 = .pointer (some ⟨A.next, 0, none⟩) ∧ fr 9 = .int .i64 ps.length ∧ fr 10 = .pointer (some ⟨A.next + 3, 0, none⟩) ∧ fr 11 = .int .i64 (al i) ∧ fr 12 = .int .i64 i) ps.length ?_ ?_
    · refine ⟨rfl, 0, rfl, Nat.zero_le _, rfl, rfl, rfl, rfl, ?_, rfl⟩
      rw [hs0]
      rfl
    · rintro k fr A' ⟨rfl, i, rfl, hi, g1, g2, g9, g10, g11, g12⟩
      have a1 := hal i
      by_cases hlt : i < ps.length
      · obtain ⟨q, row, u, hq', hrow, hcell, hu⟩ := (hp.le hleO hw).at hlt
        subst hq'
        have hwi : IntKind.i64.wrap ((i : Int) + 1) = ((i + 1 : Nat) : Int) := wrap_i64 (by omega) (by omega)
        have hx : ps[i]? = some ps[i] := List.getElem?_eq_getElem hlt
        have hS := hsA i
        rw [hx] at hS
        simp only at hS
        have hv := k4 _ (List.getElem_mem hlt)
        generalize ps[i] = p at hu hS hv
        have hv' : (progCheck p).2 = 0 := by simpa [progOk] using hv
        have hl := (progCheck_ok hv').1
        have cL := refLongest_call hn u p _ hu
        have hlr := longF_range hv
        have b5 := hsR p k0 hv k2
        have h4 : 0 ≤ longF p * (1 + ps.length + 3 * bl) ∧ longF p * (1 + ps.length + 3 * bl) ≤ 64 * 209 := mul_bound (by omega) (by omega) (by omega) (by omega)
        rw [hst] at hS b5
        have cC := fun j h => refCommit_call hn u p j A1 hu h
        generalize longF p = lf at hlr h4 hS cL b5
        have a2 := hal (i + 1)
        rw [hS] at a2
        have hSm := hSR p k0 hv
        have hBt := hBT p k0 hv
        have hmB := hsB p
        have hm0 := hsB0 p
        have hbp := hbg p
        have hcm := @commitF_range _ p hv
        have hi7 := @beg_imm _ p hv
        generalize sm p = sp at hS b5 a2 hSm hmB hm0
        generalize bt p = bp at hBt hmB hbp
        obtain ⟨o, c', hu', _⟩ := hu.form
        subst hu'
        refine awp_seq ?_
        repeat' (first
        | (refine lwc fun R hR => ?_; simp [wrap_i64, wrap_u64, g1, g2, g9, g10, g11, g12, hlt, hwi, hrow, hcell, hrO, hrC]; try simp (disch := omega) only [if_pos, if_neg, wrap_i64, wrap_u64])
        | (refine hR _ _ ?_; clear hR R) | (refine hK _ _ ?_; clear hK K) | refine lwn ?_ | refine lr ?_ | refine la ?_
        | refine wn fun K hK => ?_
        | simp only [wS, oFbV_0, oFbV_1]
        | refine wl Tryd.mx oFbV_0 (by decide +kernel) fun K hK => ?_
        | refine wl Tryd.mx oFbV_1 (by decide +kernel) fun K hK => ?_
        | (refine callK (cL) ?_; rintro _ _ ⟨rfl, rfl⟩ _ _)
        | (refine callK (cB _) ?_; rintro _ _ ⟨rfl, rfl⟩ _ _)
        | refine wb ?_ | refine wr ?_ | refine wk ?_ | refine we ?_ | refine ws ?_ | refine wq ?_
        | (refine wc rfl (fun hc => ?_) (fun hc => ?_) <;> (try simp at hc) <;> (try omega))
        | (refine ib (fun hc => ?_) (fun hc => ?_) <;> (try omega) <;> (try simp (disch := omega) only [if_pos, if_neg])))
        refine awp_loop (fun k fr2 A' => A1 = A' ∧ ∃ j : Nat, k = p.length - j ∧ j ≤ p.length ∧ fr2 1 = .int .i64 w ∧ fr2 2 = .pointer (some ⟨A.next, 0, none⟩) ∧ fr2 9 = .int .i64 ps.length ∧ fr2 10 = .pointer (some ⟨A.next + 3, 0, none⟩) ∧ fr2 12 = .int .i64 i ∧ fr2 13 = .slice o p.length c' ∧
          fr2 14 = .int .i64 j ∧ fr2 11 = .int .i64 (al i + (lf * (1 + ps.length + 3 * bl) + sp j))) p.length ?_ ?_
        · refine ⟨rfl, 0, rfl, Nat.zero_le _, ?_, ?_, ?_, ?_, ?_, ?_, ?_, ?_⟩
          iterate 7 simp [g1, g2, g9, g10, g12]
          simp only [hm0, Int.add_zero]
          first
          | rfl
          | (simp (disch := omega) only [wrap_i64]; rfl)
          | (simp; simp (disch := omega) only [wrap_i64])
        · generalize lf * (1 + ps.length + 3 * bl) = P at h4 hS b5 a2
          rintro k fr2 A' ⟨rfl, j, rfl, hj, j1, j2, j9, j10, j12, j13, j14, j11⟩
          have s3 := hSm j
          by_cases hlt2 : j < p.length
          · obtain ⟨q2, row2, hq2, hrow2, hle2, hcell2⟩ := hu.at hlt2
            subst hq2
            have hwj : IntKind.i64.wrap ((j : Int) + 1) = ((j + 1 : Nat) : Int) := wrap_i64 (by omega) (by omega)
            have hx2 : p[j]? = some p[j] := List.getElem?_eq_getElem hlt2
            have hS2 := hmB j
            rw [hx2] at hS2
            have hB1 := hBt j p[j] hx2
            have hi8 := hi7 hx2
            have hop : insOp p j = p[j].op := insOp_get hx2
            have cC1 := cC j hlt2
            have hcm1 := @hcm j
            rw [hop] at hcm1
            simp only at hS2
            rw [hbp] at hS2 hB1
            generalize p[j] = x at hcell2 hS2 hB1 hi8 hcm1
            generalize commitF p j = cm at hS2 hB1 cC1 hcm1
            have hcell0 := ins_op hcell2
            have hcell4 := ins_cell hcell2 4 (by omega)
            obtain ⟨op, a, b', c'', imm⟩ := x
            simp only [insCells] at hcell0 hcell4 hcell2 hS2 hB1 hi8 hcm1
            by_cases o7 : op = 7
            · subst o7
              rw [if_pos rfl] at hS2
              have d1 := hB1 rfl
              have d2 := hi8 rfl
              have d3 := hcm1 rfl
              have s4 := hSm (j + 1)
              rw [hS2] at s4
              refine awp_seq ?_
              repeat' (first
              | (refine lwc fun R hR => ?_; simp [wrap_i64, wrap_u64, j1, j2, j9, j10, j12, j13, j14, j11, hlt2, hwj, hrow2, hcell0, hcell4, hcell2, hle2, hrC]; try simp (disch := omega) only [if_pos, if_neg, wrap_i64, wrap_u64])
              | (refine hR _ _ ?_; clear hR R) | (refine hK _ _ ?_; clear hK K) | refine lwn ?_ | refine lr ?_ | refine la ?_
              | refine wn fun K hK => ?_
              | simp only [wS, oFbV_0, oFbV_1]
              | refine wl Tryd.mx oFbV_0 (by decide +kernel) fun K hK => ?_
              | refine wl Tryd.mx oFbV_1 (by decide +kernel) fun K hK => ?_
              | (refine callK (cC1) ?_; rintro _ _ ⟨rfl, rfl⟩ _ _)
              | refine wb ?_ | refine wr ?_ | refine wk ?_ | refine we ?_ | refine ws ?_ | refine wq ?_
              | (refine wc rfl (fun hc => ?_) (fun hc => ?_) <;> (try simp at hc) <;> (try omega))
              | (refine ib (fun hc => ?_) (fun hc => ?_) <;> (try omega) <;> (try simp (disch := omega) only [if_pos, if_neg])))
              refine ⟨p.length - (j + 1), by omega, rfl, j + 1, rfl, by omega, ?_, ?_, ?_, ?_, ?_, ?_, ?_, ?_⟩
              iterate 7 simp [j1, j2, j9, j10, j12, j13, j14]
              rw [hS2]
              simp
              all_goals omega
            · rw [if_neg o7] at hS2
              refine awp_seq ?_
              repeat' (first
              | (refine lwc fun R hR => ?_; simp [wrap_i64, wrap_u64, j1, j2, j9, j10, j12, j13, j14, j11, hlt2, hwj, hrow2, hcell0, hcell4, hcell2, hle2, hrC, o7]; try simp (disch := omega) only [if_pos, if_neg, wrap_i64, wrap_u64])
              | (refine hR _ _ ?_; clear hR R) | (refine hK _ _ ?_; clear hK K) | refine lwn ?_ | refine lr ?_ | refine la ?_
              | refine wn fun K hK => ?_
              | simp only [wS, oFbV_0, oFbV_1]
              | refine wl Tryd.mx oFbV_0 (by decide +kernel) fun K hK => ?_
              | refine wl Tryd.mx oFbV_1 (by decide +kernel) fun K hK => ?_
              | (refine callK (cC1) ?_; rintro _ _ ⟨rfl, rfl⟩ _ _)
              | refine wb ?_ | refine wr ?_ | refine wk ?_ | refine we ?_ | refine ws ?_ | refine wq ?_
              | (refine wc rfl (fun hc => ?_) (fun hc => ?_) <;> (try simp at hc) <;> (try omega))
              | (refine ib (fun hc => ?_) (fun hc => ?_) <;> (try omega) <;> (try simp (disch := omega) only [if_pos, if_neg])))
              refine ⟨p.length - (j + 1), by omega, rfl, j + 1, rfl, by omega, ?_, ?_, ?_, ?_, ?_, ?_, ?_, ?_⟩
              iterate 7 simp [j1, j2, j9, j10, j12, j13, j14]
              rw [hS2]
              simp [j11]
          · have hjl : j = p.length := by omega
            subst hjl
            refine awp_seq ?_
            repeat' (first
            | (refine lwc fun R hR => ?_; simp [wrap_i64, wrap_u64, j1, j2, j9, j10, j12, j13, j14, j11, hlt2, hwi]; try simp (disch := omega) only [if_pos, if_neg, wrap_i64, wrap_u64])
            | (refine hR _ _ ?_; clear hR R) | (refine hK _ _ ?_; clear hK K) | refine lwn ?_ | refine lr ?_ | refine la ?_
            | refine wn fun K hK => ?_
            | simp only [wS, oFbV_0, oFbV_1]
            | refine wl Tryd.mx oFbV_0 (by decide +kernel) fun K hK => ?_
            | refine wl Tryd.mx oFbV_1 (by decide +kernel) fun K hK => ?_
            | refine wb ?_ | refine wr ?_ | refine wk ?_ | refine we ?_ | refine ws ?_ | refine wq ?_
            | (refine wc rfl (fun hc => ?_) (fun hc => ?_) <;> (try simp at hc) <;> (try omega))
            | (refine ib (fun hc => ?_) (fun hc => ?_) <;> (try omega) <;> (try simp (disch := omega) only [if_pos, if_neg])))
            refine ⟨ps.length - (i + 1), by omega, rfl, i + 1, rfl, by omega, ?_, ?_, ?_, ?_, ?_, ?_⟩ <;> simp [j1, j2, j9, j10, j12, j11, hS]
      · have hil : i = ps.length := by omega
        subst hil
        have hm := mul_bound (a := 4 * w) (b := al ps.length + 1) (x := 4000) (y := 4800001) (by omega) (by omega) (by omega) (by omega)
        have hw1 : IntKind.i64.wrap (al ps.length + 1) = al ps.length + 1 := wrap_i64 (by omega) (by omega)
        have hw2 : IntKind.i64.wrap (4 * w * (al ps.length + 1)) = 4 * w * (al ps.length + 1) := wrap_i64 (by omega) (by omega)
        refine awp_seq ?_
        repeat' (first
        | (refine lwc fun R hR => ?_; simp [wrap_i64, wrap_u64, g1, g2, g9, g10, g11, g12, hlt, hw4, hw1, hw2]; try simp (disch := omega) only [if_pos, if_neg, wrap_i64, wrap_u64])
        | (refine hR _ _ ?_; clear hR R) | (refine hK _ _ ?_; clear hK K) | refine lwn ?_ | refine lr ?_ | refine la ?_
        | refine wn fun K hK => ?_
        | simp only [wS, oFbV_0, oFbV_1]
        | refine wl Tryd.mx oFbV_0 (by decide +kernel) fun K hK => ?_
        | refine wl Tryd.mx oFbV_1 (by decide +kernel) fun K hK => ?_
        | refine wb ?_ | refine wr ?_ | refine wk ?_ | refine we ?_ | refine ws ?_ | refine wq ?_
        | (refine wc rfl (fun hc => ?_) (fun hc => ?_) <;> (try simp at hc) <;> (try omega))
        | (refine ib (fun hc => ?_) (fun hc => ?_) <;> (try omega) <;> (try simp (disch := omega) only [if_pos, if_neg])))
        all_goals first | exact hleO | (simp [ABlock, AThen, APost, ares, aresL, ares1, boundV, ← hV, hw4, hw1, hw2] <;> exact hleO)
end Go.Stx
