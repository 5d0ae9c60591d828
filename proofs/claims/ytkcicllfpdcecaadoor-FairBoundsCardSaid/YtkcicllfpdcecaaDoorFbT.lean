/-
  The bound of a program.
-/
import Derived.Test.YtkcicllfpdcecaaDoorFbS
import Derived.Test.YtkcicllfpdcecaaDoorFbR
namespace Go.Stx
open Go Go.Proofs
def oFbT_0 : List (Nat × Nat) := [(0, 0), (2, 0), (3, 0), (4, 0), (1, 2), (5, 2), (6, 0), (7, 0), (8, 0), (9, 0)]
attribute [local irreducible] AWP LWalk ACall ARounds lops nops
set_option linter.unusedVariables false
set_option linter.unusedSimpArgs false
set_option linter.unusedSectionVars false
set_option maxRecDepth 20000
variable [Gl]

def begT (c : CfgS) (p : List InsV) (i : Nat) (imm : Int) : Int := imm * (10 + 4 * (commitF p i - i + 1) + 4 * c.writes + c.reads + 3 * c.allocs)
def sumB (c : CfgS) (p : List InsV) : Nat → Int
  | 0 => 0
  | i + 1 => sumB c p i + match p[i]? with
    | some x => if x.op = 7 then begT c p i x.imm else 0
    | none => 0
def stepsF (c : CfgS) (n : Nat) (p : List InsV) : Int := longF p * (1 + n + 3 * blocksF c) + sumB c p p.length
def allS (c : CfgS) (n : Nat) (ps : List (List InsV)) : Nat → Int
  | 0 => 0
  | t + 1 => allS c n ps t + match ps[t]? with
    | some p => stepsF c n p
    | none => 0

theorem mul_bound {a b x y : Int} (h1 : 0 ≤ a) (h2 : a ≤ x) (h3 : 0 ≤ b) (h4 : b ≤ y) : 0 ≤ a * b ∧ a * b ≤ x * y :=
  ⟨Int.mul_nonneg h1 h3, Int.mul_le_mul h2 h4 h3 (Int.le_trans h1 h2)⟩

theorem cfgErr_ok {c : CfgS} (h : cfgErr c = 0) : (0 ≤ c.nb ∧ c.nb ≤ 64) ∧ (1 ≤ c.reads ∧ c.reads ≤ 32) ∧ (1 ≤ c.writes ∧ c.writes ≤ 32) ∧ (0 ≤ c.allocs ∧ c.allocs ≤ 8) := by
  obtain ⟨h1, h2⟩ := cfgErr_cnt h
  unfold cfgErr at h
  split at h
  · cases h
  · split at h
    · cases h
    · split at h
      · cases h
      · rename_i h3
        rw [Decidable.not_not] at h3
        unfold cntOk at h1
        have e : c.nb = c.c0 + c.c1 + c.c2 + c.c3 := rfl
        exact ⟨by omega, h3.1, h3.2.1, h3.2.2.1⟩
theorem blocksF_range (c : CfgS) : 0 ≤ blocksF c ∧ blocksF c ≤ 64 := by
  unfold blocksF
  split
  · rename_i h
    exact (cfgErr_ok h).1
  · omega
theorem longF_range {p : List InsV} (hv : progOk p = true) : 0 ≤ longF p ∧ longF p ≤ 64 := by
  have hv' : (progCheck p).2 = 0 := by simpa [progOk] using hv
  have hl := (progCheck_ok hv').1
  have h1 := bestT_pos hv (d := p.length) (t := 0) (Nat.le_refl _) (by omega) (Nat.zero_le _)
  unfold longF
  rw [if_pos hv, ← longest_eq hv']
  omega
theorem commitF_range {p : List InsV} (hv : progOk p = true) {i : Nat} (h7 : insOp p i = 7) : (i : Int) < commitF p i ∧ commitF p i ≤ p.length := by
  have hi := insOp_lt (p := p) (k := i) (by omega)
  unfold commitF
  rw [if_pos ⟨hv, h7⟩]
  obtain ⟨g1, g2, _⟩ := nextC_spec (p := p) (k := i + 1) (by omega)
  unfold progEnd
  omega
theorem beg_imm {p : List InsV} (hv : progOk p = true) {i : Nat} {x : InsV} (hx : p[i]? = some x) (h7 : x.op = 7) : 1 ≤ x.imm ∧ x.imm ≤ 8 := by
  have hv' : (progCheck p).2 = 0 := by simpa [progOk] using hv
  have h1 := (progCheck_ok hv').2.1 i x hx
  have h0 : insErr x = 0 := by
    rcases Decidable.em (insErr x = 0) with h | h
    · exact h
    · unfold oneE at h1; rw [if_neg h] at h1; exact absurd h1 h
  unfold insErr at h0
  split at h0
  · cases h0
  · split at h0
    · rename_i h2
      rw [Bool.and_eq_true] at h2
      have h3 := h2.2
      unfold numOk at h3
      rw [if_neg (by omega), if_neg (by omega), if_neg (by omega), if_pos h7] at h3
      simpa using h3
    · cases h0
theorem begT_range {c : CfgS} {p : List InsV} (h0 : cfgErr c = 0) (hv : progOk p = true) {i : Nat} {x : InsV} (hx : p[i]? = some x) (h7 : x.op = 7) : 0 ≤ begT c p i x.imm ∧ begT c p i x.imm ≤ 3632 := by
  obtain ⟨a1, a2, a3, a4⟩ := cfgErr_ok h0
  have hv' : (progCheck p).2 = 0 := by simpa [progOk] using hv
  have hl := (progCheck_ok hv').1
  have h1 := commitF_range hv (i := i) (by rw [insOp_get hx]; exact h7)
  have h2 := beg_imm hv hx h7
  exact mul_bound (x := 8) (y := 454) (by omega) (by omega) (by omega) (by omega)
theorem sumB_range {c : CfgS} {p : List InsV} (h0 : cfgErr c = 0) (hv : progOk p = true) : ∀ i, 0 ≤ sumB c p i ∧ sumB c p i ≤ 3632 * i
  | 0 => by unfold sumB; omega
  | i + 1 => by
    have ih := sumB_range (c := c) h0 hv i
    unfold sumB
    split
    · rename_i x hx
      split
      · rename_i h7
        have := begT_range h0 hv hx h7
        omega
      · omega
    · omega
theorem stepsF_range {c : CfgS} {n : Nat} {p : List InsV} (h0 : cfgErr c = 0) (hv : progOk p = true) (hn : n ≤ 16) : 0 ≤ stepsF c n p ∧ stepsF c n p ≤ 300000 := by
  have hv' : (progCheck p).2 = 0 := by simpa [progOk] using hv
  have hl := (progCheck_ok hv').1
  have h1 := longF_range hv
  have h2 := blocksF_range c
  have h3 := sumB_range (c := c) h0 hv p.length
  have h4 : 0 ≤ longF p * (1 + n + 3 * blocksF c) ∧ longF p * (1 + n + 3 * blocksF c) ≤ 64 * 209 := mul_bound (by omega) (by omega) (by omega) (by omega)
  unfold stepsF
  omega

set_option maxHeartbeats 4000000 in
theorem steps_call (hF : FOK) (c : CfgS) (n : Nat) (v : Value) (p : List InsV) (A : AW) (h : IsIns A v p) (h0 : cfgErr c = 0) (hv : progOk p = true) (hn : n ≤ 16) :
    ACall Tryd.prog 17 [c.v, .int .i64 n, v] A (fun u A' => u = .int .i64 (stepsF c n p) ∧ A = A') := by
  refine ACall.gc0 (V := .int .i64 (stepsF c n p)) (by simp) (fun hw => ?_) (by kernel_rfl)
  refine acall_intro Tryd.func17 rfl (by kernel_rfl) fun _ => ?_
  obtain ⟨a1, a2, a3, a4⟩ := cfgErr_ok h0
  have hv' : (progCheck p).2 = 0 := by simpa [progOk] using hv
  have hl := (progCheck_ok hv').1
  have h1 := longF_range hv
  have h2 := blocksF_range c
  have h3 := fun i => sumB_range (c := c) h0 hv i
  have h4 : 0 ≤ longF p * (1 + n + 3 * blocksF c) ∧ longF p * (1 + n + 3 * blocksF c) ≤ 64 * 209 := mul_bound (by omega) (by omega) (by omega) (by omega)
  have hB := fun i x hx h7 => begT_range (c := c) (p := p) h0 hv (i := i) (x := x) hx h7
  have cB := fun B => blocks_call c B
  have hst : stepsF c n p = longF p * (1 + n + 3 * blocksF c) + sumB c p p.length := rfl
  have hbg : ∀ i imm, begT c p i imm = imm * (10 + 4 * (commitF p i - i + 1) + 4 * c.writes + c.reads + 3 * c.allocs) := fun _ _ => rfl
  generalize stepsF c n p = S at hst ⊢
  generalize blocksF c = bl at cB h2 h4 hst
  have cL := longest_call hF v p
  obtain ⟨o, cc, rfl, _⟩ := h.form
  generalize longF p = lf at cL h1 h4 hst
  have hsB : ∀ i, sumB c p (i + 1) = sumB c p i + match p[i]? with
    | some x => if x.op = 7 then begT c p i x.imm else 0
    | none => 0 := fun _ => rfl
  have hs0 : sumB c p 0 = 0 := rfl
  generalize sumB c p = sm at h3 hst hsB hs0
  generalize begT c p = bt at hB hbg hsB
  obtain ⟨wds, ords, bas, c0, c1, c2, c3, rds, wrs, als, fre, clk, stg⟩ := c
  simp only at a1 a2 a3 a4 hbg
  simp only [CfgS.v, CfgS.cells] at cB ⊢
  have cL1 := fun O => cL (A.alloc O) (h.le (AW.le.alloc A O) hw)
  repeat' (first
  | (refine lwc fun R hR => ?_; simp [wrap_i64, wrap_u64, AW.row_get, astore]; try simp (disch := omega) only [if_pos, if_neg, wrap_i64, wrap_u64])
  | (refine hR _ _ ?_; clear hR R) | (refine hK _ _ ?_; clear hK K) | refine lwn ?_ | refine lr ?_ | refine la ?_
  | refine wn fun K hK => ?_
  | simp only [wS, oFbT_0]
  | refine wl Tryd.mx oFbT_0 (by decide +kernel) fun K hK => ?_
  | (refine callK (cL1 _) ?_; rintro _ _ ⟨rfl, rfl⟩ _ _)
  | (refine callK (cB _) ?_; rintro _ _ ⟨rfl, rfl⟩ _ _)
  | refine wb ?_ | refine wr ?_ | refine wk ?_ | refine we ?_ | refine ws ?_ | refine wq ?_
  | (refine wc rfl (fun hc => ?_) (fun hc => ?_) <;> (try simp at hc) <;> (try omega))
  | (refine ib (fun hc => ?_) (fun hc => ?_) <;> (try omega) <;> (try simp (disch := omega) only [if_pos, if_neg])))
  obtain ⟨O, hO⟩ : ∃ O, (AObj.cells [.int .i64 wds, .int .i64 ords, .int .i64 bas, .int .i64 c0, .int .i64 c1, .int .i64 c2, .int .i64 c3, .int .i64 rds, .int .i64 wrs, .int .i64 als, .int .i64 fre, .int .i64 clk, .bool stg] true 1) = O := ⟨_, rfl⟩
  rw [hO]
  have hleO : A.le (A.alloc O) := AW.le.alloc A O
  have hgO : (A.alloc O).get A.next = some O := by simp
  have hwO := hw.alloc O
  generalize A.alloc O = A1 at hleO hgO hwO ⊢
  subst hO
  refine awp_loop (fun k fr A' => A1.le A' ∧ ∃ i : Nat, k = p.length - i ∧ i ≤ p.length ∧ fr 2 = .slice o p.length cc ∧ fr 3 = .pointer (some ⟨A.next, 0, none⟩) ∧ fr 20 = .slice o p.length cc ∧ fr 21 = .int .i64 p.length ∧ fr 22 = .int .i64 i ∧
    fr 7 = .int .i64 (lf * (1 + n + 3 * bl) + sm i)) p.length ?_ ?_
  · refine ⟨AW.le.refl A1, 0, rfl, Nat.zero_le _, rfl, rfl, rfl, rfl, rfl, ?_⟩
    simp only [hs0, Int.add_zero]
    first
    | rfl
    | (simp (disch := omega) only [wrap_i64]; rfl)
    | (simp; simp (disch := omega) only [wrap_i64])
  · generalize lf * (1 + n + 3 * bl) = P at h4 hst
    rintro k fr A' ⟨hle', i, rfl, hi, g2, g3, g20, g21, g22, g7⟩
    have hgC := hle'.keep hwO hgO
    have hltC : A.next < A'.next := Nat.lt_of_lt_of_le (hwO.lt hgO) hle'.next
    have s3 := h3 i
    by_cases hlt : i < p.length
    · obtain ⟨q, row, hq', hrow, hle, hcell⟩ := (h.le (hleO.trans hle') hw).at hlt
      subst hq'
      have hwi : IntKind.i64.wrap ((i : Int) + 1) = ((i + 1 : Nat) : Int) := wrap_i64 (by omega) (by omega)
      have hx : p[i]? = some p[i] := List.getElem?_eq_getElem hlt
      have hS := hsB i
      rw [hx] at hS
      have hB1 := hB i p[i] hx
      have hi7 := beg_imm hv hx
      have hop : insOp p i = p[i].op := insOp_get hx
      have cC := fun O O' => commit_call hF _ p i _ (h.le ((hleO.trans hle').trans (AW.le.upd A' O O')) hw) hlt
      have hcm := commitF_range hv (i := i)
      rw [hop] at hcm
      simp only at hS
      rw [hbg] at hS hB1
      generalize p[i] = x at hcell hS hB1 hi7 hcm
      generalize commitF p i = cm at hS hB1 cC hcm
      have hcell0 := ins_op hcell
      have hcell4 := ins_cell hcell 4 (by omega)
      obtain ⟨op, a, b', c', imm⟩ := x
      simp only [insCells] at hcell0 hcell4 hcell hS hB1 hi7 hcm
      have hrowC := AW.row_of hgC
      have hne : ¬ A'.next = A.next := by omega
      have hne2 : ¬ A.next = A'.next := by omega
      by_cases o7 : op = 7
      · subst o7
        rw [if_pos rfl] at hS
        have b1 := hB1 rfl
        have b2 := hi7 rfl
        have b3 := hcm rfl
        have s4 := h3 (i + 1)
        rw [hS] at s4
        refine awp_seq ?_
        repeat' (first
        | (refine lwc fun R hR => ?_; simp [wrap_i64, wrap_u64, g2, g3, g20, g21, g22, g7, hlt, hwi, hrow, hcell0, hcell4, hcell, hle, AW.row_get, astore, hgC, hne, hne2]; try simp (disch := omega) only [if_pos, if_neg, wrap_i64, wrap_u64])
        | (refine hR _ _ ?_; clear hR R) | (refine hK _ _ ?_; clear hK K) | refine lwn ?_ | refine lr ?_ | refine la ?_
        | refine wn fun K hK => ?_
        | simp only [wS, oFbT_0]
        | refine wl Tryd.mx oFbT_0 (by decide +kernel) fun K hK => ?_
        | (refine callK (cC _ _) ?_; rintro _ _ ⟨rfl, rfl⟩ _ _)
        | refine wb ?_ | refine wr ?_ | refine wk ?_ | refine we ?_ | refine ws ?_ | refine wq ?_
        | (refine wc rfl (fun hc => ?_) (fun hc => ?_) <;> (try simp at hc) <;> (try omega))
        | (refine ib (fun hc => ?_) (fun hc => ?_) <;> (try omega) <;> (try simp (disch := omega) only [if_pos, if_neg])))
        refine ⟨p.length - (i + 1), by omega, hle'.trans (AW.le.upd A' _ _), i + 1, rfl, by omega, ?_, ?_, ?_, ?_, ?_, ?_⟩
        iterate 5 simp [g2, g3, g20, g21, g22]
        rw [hS]
        simp
        all_goals omega
      · rw [if_neg o7] at hS
        refine awp_seq ?_
        repeat' (first
        | (refine lwc fun R hR => ?_; simp [wrap_i64, wrap_u64, g2, g3, g20, g21, g22, g7, hlt, hwi, hrow, hcell0, hcell4, hcell, hle, AW.row_get, astore, hgC, hne, hne2, o7]; try simp (disch := omega) only [if_pos, if_neg, wrap_i64, wrap_u64])
        | (refine hR _ _ ?_; clear hR R) | (refine hK _ _ ?_; clear hK K) | refine lwn ?_ | refine lr ?_ | refine la ?_
        | refine wn fun K hK => ?_
        | simp only [wS, oFbT_0]
        | refine wl Tryd.mx oFbT_0 (by decide +kernel) fun K hK => ?_
        | (refine callK (cC _ _) ?_; rintro _ _ ⟨rfl, rfl⟩ _ _)
        | refine wb ?_ | refine wr ?_ | refine wk ?_ | refine we ?_ | refine ws ?_ | refine wq ?_
        | (refine wc rfl (fun hc => ?_) (fun hc => ?_) <;> (try simp at hc) <;> (try omega))
        | (refine ib (fun hc => ?_) (fun hc => ?_) <;> (try omega) <;> (try simp (disch := omega) only [if_pos, if_neg])))
        refine ⟨p.length - (i + 1), by omega, hle'.trans (AW.le.upd A' _ _), i + 1, rfl, by omega, ?_, ?_, ?_, ?_, ?_, ?_⟩
        iterate 5 simp [g2, g3, g20, g21, g22]
        rw [hS]
        simp [g7]
    · have hil : i = p.length := by omega
      subst hil
      refine awp_seq ?_
      repeat' (first
      | (refine lwc fun R hR => ?_; simp [wrap_i64, wrap_u64, g2, g3, g20, g21, g22, g7, hlt]; try simp (disch := omega) only [if_pos, if_neg, wrap_i64, wrap_u64])
      | (refine hR _ _ ?_; clear hR R) | (refine hK _ _ ?_; clear hK K) | refine lwn ?_ | refine lr ?_ | refine la ?_
      | refine wn fun K hK => ?_
      | simp only [wS, oFbT_0]
      | refine wl Tryd.mx oFbT_0 (by decide +kernel) fun K hK => ?_
      | refine wb ?_ | refine wr ?_ | refine wk ?_ | refine we ?_ | refine ws ?_ | refine wq ?_
      | (refine wc rfl (fun hc => ?_) (fun hc => ?_) <;> (try simp at hc) <;> (try omega))
      | (refine ib (fun hc => ?_) (fun hc => ?_) <;> (try omega) <;> (try simp (disch := omega) only [if_pos, if_neg])))
      all_goals first | exact hleO.trans hle' | (simp [ABlock, AThen, APost, ares, aresL, ares1, hst] <;> exact hleO.trans hle')
end Go.Stx
