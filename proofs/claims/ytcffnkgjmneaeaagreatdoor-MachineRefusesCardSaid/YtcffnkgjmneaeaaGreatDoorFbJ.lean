/-
  The program's check of an instruction: Check.
-/
import Derived.Test.YtcffnkgjmneaeaaGreatDoorFbI
namespace Go.Stx
open Go Go.Proofs
def oFbJ_0 : List (Nat × Nat) := [(0, 0), (1, 0), (2, 0), (3, 0), (4, 0), (5, 0), (6, 0), (7, 0), (8, 0), (9, 2), (10, 0)]
attribute [local irreducible] AWP LWalk ACall ARounds lops nops
set_option linter.unusedVariables false
set_option linter.unusedSimpArgs false
set_option linter.unusedSectionVars false
set_option maxRecDepth 20000
section
variable (G1 G2 : Gl) (hG : ∀ g, G1.ok g = true → G2.ok g = true)
include hG
theorem opndOk_mono {n : Nat} {o : Operand} (h : @opndOk G1 n o = true) : @opndOk G2 n o = true := by
  cases o with
  | global g => exact hG g h
  | _ => exact h
theorem operOk_mono {n : Nat} {o : Oper} (h : @operOk G1 n o = true) : @operOk G2 n o = true := by
  unfold operOk at h ⊢
  rw [Bool.and_eq_true] at h ⊢
  refine ⟨?_, h.2⟩
  have h1 := h.1
  rw [Array.all_eq_true] at h1 ⊢
  exact fun i hi => opndOk_mono G1 G2 hG (h1 i hi)
theorem codeOk_mono {n : Nat} : ∀ {c : Code}, @codeOk G1 n c = true → @codeOk G2 n c = true
  | .region _ ops _, h => by
    unfold codeOk at h ⊢
    rw [Array.all_eq_true] at h ⊢
    exact fun i hi => operOk_mono G1 G2 hG (h i hi)
  | .seq a b, h => by
    unfold codeOk at h ⊢
    rw [Bool.and_eq_true] at h ⊢
    exact ⟨codeOk_mono h.1, codeOk_mono h.2⟩
  | .cond c a b, h => by
    unfold codeOk at h ⊢
    rw [Bool.and_eq_true, Bool.and_eq_true] at h ⊢
    exact ⟨⟨opndOk_mono G1 G2 hG h.1.1, codeOk_mono h.1.2⟩, codeOk_mono h.2⟩
  | .block _ b, h => by
    unfold codeOk at h ⊢
    exact codeOk_mono h
  | .loop b, h => by
    unfold codeOk at h ⊢
    exact codeOk_mono h
  | .skip, h => rfl
  | .exit _, h => rfl
  | .ret, h => rfl
end

@[reducible] def GlF : Gl := { B := fun _ => none, ok := fun g => g == 0, N := 1, lt := fun g h => by have := eq_of_beq h; omega }
variable [Gl]

theorem fnOk_forms (hok : Gl.ok 0 = true) {fn : Func} {n : Nat} (h : @fnOk GlF fn n = true) : fnOk fn n = true := by
  have hG : ∀ g, GlF.ok g = true → Gl.ok g = true := fun g hg => by
    have : g = 0 := eq_of_beq hg
    subst this
    exact hok
  unfold fnOk at h ⊢
  simp only [Bool.and_eq_true] at h ⊢
  obtain ⟨⟨⟨h1, h2⟩, h3⟩, h4⟩ := h
  refine ⟨⟨⟨h1, h2⟩, ?_⟩, ?_⟩
  · rw [List.all_eq_true] at h3 ⊢
    exact fun r hr => h3 r hr
  · cases hb : fn.body with
    | none => rw [hb] at h4; exact h4
    | some c => rw [hb] at h4; exact codeOk_mono GlF _ hG h4

theorem evF_glob (a : Fr) (g : Nat) : evF a (.global g) = .pointer (some ⟨g, 0, none⟩) := rfl
theorem sub_A : (bs [65, 66, 67]).extract 0 1 = ⟨#[65]⟩ := rfl
theorem sub_B : (bs [65, 66, 67]).extract 1 2 = ⟨#[66]⟩ := rfl
theorem sub_C : (bs [65, 66, 67]).extract 2 3 = ⟨#[67]⟩ := rfl

set_option maxHeartbeats 4000000 in
theorem isaCheck_pure (hF : FOK) (x : InsV) (A : AW) : APure Tryz.prog 83 [.agg (insCells x).toArray] A (.int .i64 (insErr x)) := by
  refine APure.of_call rfl ?_
  obtain ⟨e, fr, hB⟩ := hF.forms
  refine ACall.look (cs := formCells) hF.ok hB (fun k v h => ?_) ?_
  · refine ⟨by simpa using h, ?_⟩
    have h1 : formCells.all scalarV = true := by kernel_rfl
    exact List.all_eq_true.1 h1 v (List.mem_of_getElem? h)
  generalize A.ro = A0
  have hrow : (A0.set 0 (some (.cells formCells false 1))).row 0 = some formCells := by simp [AW.row_get]
  have hget : (A0.set 0 (some (.cells formCells false 1))).get 0 = some (.cells formCells false 1) := by simp
  generalize A0.set 0 (some (.cells formCells false 1)) = A at hrow hget
  refine acall_intro Tryz.func83 rfl (fnOk_forms hF.ok (by kernel_rfl)) fun hw => ?_
  have hz : ¬ 0 = A.next := fun e => by have := hw.lt hget; omega
  have hz2 : ¬ A.next = 0 := fun e => hz e.symm
  obtain ⟨op, a, b, c, imm⟩ := x
  by_cases h1 : op < 0
  · have he : insErr ⟨op, a, b, c, imm⟩ = 10 := by unfold insErr; rw [if_pos (.inl h1)]
    rw [he]
    repeat' (first
    | (refine lwc fun R hR => ?_; simp [wrap_i64, wrap_u64, AW.row_get, insCells, h1]; try simp (disch := omega) only [if_pos, if_neg, wrap_i64, wrap_u64])
    | (refine hR _ _ ?_; clear hR R) | (refine hK _ _ ?_; clear hK K) | refine lwn ?_ | refine lr ?_ | refine la ?_
    | refine wn fun K hK => ?_
    | simp only [wS, oFbJ_0]
    | refine wl Tryz.mx oFbJ_0 (by decide +kernel) fun K hK => ?_
    | refine wb ?_ | refine wr ?_ | refine wk ?_ | refine we ?_ | refine ws ?_ | refine wq ?_
    | (refine wc rfl (fun hc => ?_) (fun hc => ?_) <;> (try simp at hc) <;> (try omega))
    | (refine ib (fun hc => ?_) (fun hc => ?_) <;> (try omega) <;> (try simp (disch := omega) only [if_pos, if_neg])))
    all_goals simp [AThen, APost, ares, aresL, ares1]
  by_cases h2 : 18 ≤ op
  · have he : insErr ⟨op, a, b, c, imm⟩ = 10 := by unfold insErr; rw [if_pos (.inr h2)]
    rw [he]
    repeat' (first
    | (refine lwc fun R hR => ?_; simp [wrap_i64, wrap_u64, AW.row_get, insCells, h1, h2]; try simp (disch := omega) only [if_pos, if_neg, wrap_i64, wrap_u64])
    | (refine hR _ _ ?_; clear hR R) | (refine hK _ _ ?_; clear hK K) | refine lwn ?_ | refine lr ?_ | refine la ?_
    | refine wn fun K hK => ?_
    | simp only [wS, oFbJ_0]
    | refine wl Tryz.mx oFbJ_0 (by decide +kernel) fun K hK => ?_
    | refine wb ?_ | refine wr ?_ | refine wk ?_ | refine we ?_ | refine ws ?_ | refine wq ?_
    | (refine wc rfl (fun hc => ?_) (fun hc => ?_) <;> (try simp at hc) <;> (try omega))
    | (refine ib (fun hc => ?_) (fun hc => ?_) <;> (try omega) <;> (try simp (disch := omega) only [if_pos, if_neg])))
    all_goals simp [AThen, APost, ares, aresL, ares1]
  obtain ⟨k, rfl⟩ : ∃ k : Nat, op = k := ⟨op.toNat, by omega⟩
  have hk : k < 18 := by omega
  have hkk : ¬ ((18 : Int) ≤ k) := by omega
  obtain ⟨l1, l2, l3⟩ := caps hk
  have hcell := form_cell hk
  have hlen : formCells.length = 36 := by kernel_rfl
  have c1 : ∀ A, ACall Tryz.prog 142 [.string (bs (isaForm k)), .string ((⟨#[65, 66, 67]⟩ : ByteArray).extract 0 1)] A (fun u A' => u = .bool (useA k) ∧ A = A') := fun A => by rw [← l1]; exact (contains_pure (isaForm k) 65 A).call ⟨rfl, rfl⟩
  have c2 : ∀ A, ACall Tryz.prog 142 [.string (bs (isaForm k)), .string ((⟨#[65, 66, 67]⟩ : ByteArray).extract 1 2)] A (fun u A' => u = .bool (useB k) ∧ A = A') := fun A => by rw [← l2]; exact (contains_pure (isaForm k) 66 A).call ⟨rfl, rfl⟩
  have c3 : ∀ A, ACall Tryz.prog 142 [.string (bs (isaForm k)), .string ((⟨#[65, 66, 67]⟩ : ByteArray).extract 2 3)] A (fun u A' => u = .bool (useC k) ∧ A = A') := fun A => by rw [← l3]; exact (contains_pure (isaForm k) 67 A).call ⟨rfl, rfl⟩
  have he : insErr ⟨k, a, b, c, imm⟩ = if (regOk a (useA k) && regOk b (useB k) && regOk c (useC k)) && numOk k imm then 0 else 11 := by unfold insErr; rw [if_neg (by simp; omega)]
  rw [he]
  have cN := number_call ⟨(k : Int), a, b, c, imm⟩
  simp only [insCells] at cN
  generalize numOk (k : Int) imm = no at cN ⊢
  generalize useA k = ua at c1 ⊢
  generalize useB k = ub at c2 ⊢
  generalize useC k = uc at c3 ⊢
  generalize hra : regOk a ua = ra
  generalize hrb : regOk b ub = rb
  generalize hrc : regOk c uc = rc
  have key : ∀ (r : Int) (u : Bool), regOk r u = (if u then decide (0 ≤ r) && decide (r < 8) else decide (r = 0)) := fun _ _ => rfl
  rw [key] at hra hrb hrc
  repeat' (first
  | (refine lwc fun R hR => ?_; simp [wrap_i64, wrap_u64, AW.row_get, insCells, h1, hkk]; try simp (disch := omega) only [if_pos, if_neg, wrap_i64, wrap_u64])
  | (refine hR _ _ ?_; clear hR R) | (refine hK _ _ ?_; clear hK K) | refine lwn ?_ | refine lr ?_ | refine la ?_
  | refine wn fun K hK => ?_
  | simp only [wS, oFbJ_0]
  | refine wl Tryz.mx oFbJ_0 (by decide +kernel) fun K hK => ?_
  | refine wb ?_ | refine wr ?_ | refine wk ?_ | refine we ?_ | refine ws ?_ | refine wq ?_
  | (refine wc rfl (fun hc => ?_) (fun hc => ?_) <;> (try simp at hc) <;> (try omega))
  | (refine ib (fun hc => ?_) (fun hc => ?_) <;> (try omega) <;> (try simp (disch := omega) only [if_pos, if_neg])))
  refine awp_rounds 4 ?_
  cases ua with
  | false =>
    by_cases ya0 : a = 0
    · have ya1 : ra = true := by rw [← hra]; simp [ya0]
      subst ya1
      subst ya0
      cases ub with
      | false =>
        by_cases yb0 : b = 0
        · have yb1 : rb = true := by rw [← hrb]; simp [yb0]
          subst yb1
          subst yb0
          cases uc with
          | false =>
            by_cases yc0 : c = 0
            · have yc1 : rc = true := by rw [← hrc]; simp [yc0]
              subst yc1
              subst yc0
              cases no with
              | false =>
                repeat' (first
                | (refine lwc fun R hR => ?_; simp [wrap_i64, wrap_u64, AW.row_get, insCells, h1, hkk, evF_glob, hget, hcell, hlen, hz, hz2, hk]; try simp (disch := omega) only [if_pos, if_neg, wrap_i64, wrap_u64])
                | (refine hR _ _ ?_; clear hR R) | (refine hK _ _ ?_; clear hK K) | refine lwn ?_ | refine lr ?_ | refine la ?_
                | refine wn fun K hK => ?_
                | simp only [wS, oFbJ_0]
                | refine wl Tryz.mx oFbJ_0 (by decide +kernel) fun K hK => ?_
                | (refine callK (c1 _) ?_; rintro _ _ ⟨rfl, rfl⟩ _ _)
                | (refine callK (c2 _) ?_; rintro _ _ ⟨rfl, rfl⟩ _ _)
                | (refine callK (c3 _) ?_; rintro _ _ ⟨rfl, rfl⟩ _ _)
                | (refine callK (cN _) ?_; rintro _ _ ⟨rfl, rfl⟩ _ _)
                | refine wb ?_ | refine wr ?_ | refine wk ?_ | refine we ?_ | refine ws ?_ | refine wq ?_
                | (refine wc rfl (fun hc => ?_) (fun hc => ?_) <;> (try simp at hc) <;> (try omega))
                | (refine ib (fun hc => ?_) (fun hc => ?_) <;> (try omega) <;> (try simp (disch := omega) only [if_pos, if_neg])))
                all_goals first | exact AW.le.refl _ | simp [ABlock, AThen, APost, ares, aresL, ares1]
              | true =>
                repeat' (first
                | (refine lwc fun R hR => ?_; simp [wrap_i64, wrap_u64, AW.row_get, insCells, h1, hkk, evF_glob, hget, hcell, hlen, hz, hz2, hk]; try simp (disch := omega) only [if_pos, if_neg, wrap_i64, wrap_u64])
                | (refine hR _ _ ?_; clear hR R) | (refine hK _ _ ?_; clear hK K) | refine lwn ?_ | refine lr ?_ | refine la ?_
                | refine wn fun K hK => ?_
                | simp only [wS, oFbJ_0]
                | refine wl Tryz.mx oFbJ_0 (by decide +kernel) fun K hK => ?_
                | (refine callK (c1 _) ?_; rintro _ _ ⟨rfl, rfl⟩ _ _)
                | (refine callK (c2 _) ?_; rintro _ _ ⟨rfl, rfl⟩ _ _)
                | (refine callK (c3 _) ?_; rintro _ _ ⟨rfl, rfl⟩ _ _)
                | (refine callK (cN _) ?_; rintro _ _ ⟨rfl, rfl⟩ _ _)
                | refine wb ?_ | refine wr ?_ | refine wk ?_ | refine we ?_ | refine ws ?_ | refine wq ?_
                | (refine wc rfl (fun hc => ?_) (fun hc => ?_) <;> (try simp at hc) <;> (try omega))
                | (refine ib (fun hc => ?_) (fun hc => ?_) <;> (try omega) <;> (try simp (disch := omega) only [if_pos, if_neg])))
                all_goals first | exact AW.le.refl _ | simp [ABlock, AThen, APost, ares, aresL, ares1]
            · have yc1 : rc = false := by rw [← hrc]; simp [yc0]
              subst yc1
              repeat' (first
              | (refine lwc fun R hR => ?_; simp [wrap_i64, wrap_u64, AW.row_get, insCells, h1, hkk, evF_glob, hget, hcell, hlen, hz, hz2, hk, yc0]; try simp (disch := omega) only [if_pos, if_neg, wrap_i64, wrap_u64])
              | (refine hR _ _ ?_; clear hR R) | (refine hK _ _ ?_; clear hK K) | refine lwn ?_ | refine lr ?_ | refine la ?_
              | refine wn fun K hK => ?_
              | simp only [wS, oFbJ_0]
              | refine wl Tryz.mx oFbJ_0 (by decide +kernel) fun K hK => ?_
              | (refine callK (c1 _) ?_; rintro _ _ ⟨rfl, rfl⟩ _ _)
              | (refine callK (c2 _) ?_; rintro _ _ ⟨rfl, rfl⟩ _ _)
              | (refine callK (c3 _) ?_; rintro _ _ ⟨rfl, rfl⟩ _ _)
              | (refine callK (cN _) ?_; rintro _ _ ⟨rfl, rfl⟩ _ _)
              | refine wb ?_ | refine wr ?_ | refine wk ?_ | refine we ?_ | refine ws ?_ | refine wq ?_
              | (refine wc rfl (fun hc => ?_) (fun hc => ?_) <;> (try simp at hc) <;> (try omega))
              | (refine ib (fun hc => ?_) (fun hc => ?_) <;> (try omega) <;> (try simp (disch := omega) only [if_pos, if_neg])))
              all_goals first | exact AW.le.refl _ | simp [ABlock, AThen, APost, ares, aresL, ares1]
          | true =>
            by_cases yc0 : c < 0
            · have yc1 : rc = false := by rw [← hrc]; simp; omega
              subst yc1
              repeat' (first
              | (refine lwc fun R hR => ?_; simp [wrap_i64, wrap_u64, AW.row_get, insCells, h1, hkk, evF_glob, hget, hcell, hlen, hz, hz2, hk, yc0]; try simp (disch := omega) only [if_pos, if_neg, wrap_i64, wrap_u64])
              | (refine hR _ _ ?_; clear hR R) | (refine hK _ _ ?_; clear hK K) | refine lwn ?_ | refine lr ?_ | refine la ?_
              | refine wn fun K hK => ?_
              | simp only [wS, oFbJ_0]
              | refine wl Tryz.mx oFbJ_0 (by decide +kernel) fun K hK => ?_
              | (refine callK (c1 _) ?_; rintro _ _ ⟨rfl, rfl⟩ _ _)
              | (refine callK (c2 _) ?_; rintro _ _ ⟨rfl, rfl⟩ _ _)
              | (refine callK (c3 _) ?_; rintro _ _ ⟨rfl, rfl⟩ _ _)
              | (refine callK (cN _) ?_; rintro _ _ ⟨rfl, rfl⟩ _ _)
              | refine wb ?_ | refine wr ?_ | refine wk ?_ | refine we ?_ | refine ws ?_ | refine wq ?_
              | (refine wc rfl (fun hc => ?_) (fun hc => ?_) <;> (try simp at hc) <;> (try omega))
              | (refine ib (fun hc => ?_) (fun hc => ?_) <;> (try omega) <;> (try simp (disch := omega) only [if_pos, if_neg])))
              all_goals first | exact AW.le.refl _ | simp [ABlock, AThen, APost, ares, aresL, ares1]
            by_cases yc2 : 8 ≤ c
            · have yc1 : rc = false := by rw [← hrc]; simp; omega
              subst yc1
              repeat' (first
              | (refine lwc fun R hR => ?_; simp [wrap_i64, wrap_u64, AW.row_get, insCells, h1, hkk, evF_glob, hget, hcell, hlen, hz, hz2, hk, yc0, yc2]; try simp (disch := omega) only [if_pos, if_neg, wrap_i64, wrap_u64])
              | (refine hR _ _ ?_; clear hR R) | (refine hK _ _ ?_; clear hK K) | refine lwn ?_ | refine lr ?_ | refine la ?_
              | refine wn fun K hK => ?_
              | simp only [wS, oFbJ_0]
              | refine wl Tryz.mx oFbJ_0 (by decide +kernel) fun K hK => ?_
              | (refine callK (c1 _) ?_; rintro _ _ ⟨rfl, rfl⟩ _ _)
              | (refine callK (c2 _) ?_; rintro _ _ ⟨rfl, rfl⟩ _ _)
              | (refine callK (c3 _) ?_; rintro _ _ ⟨rfl, rfl⟩ _ _)
              | (refine callK (cN _) ?_; rintro _ _ ⟨rfl, rfl⟩ _ _)
              | refine wb ?_ | refine wr ?_ | refine wk ?_ | refine we ?_ | refine ws ?_ | refine wq ?_
              | (refine wc rfl (fun hc => ?_) (fun hc => ?_) <;> (try simp at hc) <;> (try omega))
              | (refine ib (fun hc => ?_) (fun hc => ?_) <;> (try omega) <;> (try simp (disch := omega) only [if_pos, if_neg])))
              all_goals first | exact AW.le.refl _ | simp [ABlock, AThen, APost, ares, aresL, ares1]
            have yc1 : rc = true := by rw [← hrc]; simp; omega
            subst yc1
            cases no with
            | false =>
              repeat' (first
              | (refine lwc fun R hR => ?_; simp [wrap_i64, wrap_u64, AW.row_get, insCells, h1, hkk, evF_glob, hget, hcell, hlen, hz, hz2, hk, yc0, yc2]; try simp (disch := omega) only [if_pos, if_neg, wrap_i64, wrap_u64])
              | (refine hR _ _ ?_; clear hR R) | (refine hK _ _ ?_; clear hK K) | refine lwn ?_ | refine lr ?_ | refine la ?_
              | refine wn fun K hK => ?_
              | simp only [wS, oFbJ_0]
              | refine wl Tryz.mx oFbJ_0 (by decide +kernel) fun K hK => ?_
              | (refine callK (c1 _) ?_; rintro _ _ ⟨rfl, rfl⟩ _ _)
              | (refine callK (c2 _) ?_; rintro _ _ ⟨rfl, rfl⟩ _ _)
              | (refine callK (c3 _) ?_; rintro _ _ ⟨rfl, rfl⟩ _ _)
              | (refine callK (cN _) ?_; rintro _ _ ⟨rfl, rfl⟩ _ _)
              | refine wb ?_ | refine wr ?_ | refine wk ?_ | refine we ?_ | refine ws ?_ | refine wq ?_
              | (refine wc rfl (fun hc => ?_) (fun hc => ?_) <;> (try simp at hc) <;> (try omega))
              | (refine ib (fun hc => ?_) (fun hc => ?_) <;> (try omega) <;> (try simp (disch := omega) only [if_pos, if_neg])))
              all_goals first | exact AW.le.refl _ | simp [ABlock, AThen, APost, ares, aresL, ares1]
            | true =>
              repeat' (first
              | (refine lwc fun R hR => ?_; simp [wrap_i64, wrap_u64, AW.row_get, insCells, h1, hkk, evF_glob, hget, hcell, hlen, hz, hz2, hk, yc0, yc2]; try simp (disch := omega) only [if_pos, if_neg, wrap_i64, wrap_u64])
              | (refine hR _ _ ?_; clear hR R) | (refine hK _ _ ?_; clear hK K) | refine lwn ?_ | refine lr ?_ | refine la ?_
              | refine wn fun K hK => ?_
              | simp only [wS, oFbJ_0]
              | refine wl Tryz.mx oFbJ_0 (by decide +kernel) fun K hK => ?_
              | (refine callK (c1 _) ?_; rintro _ _ ⟨rfl, rfl⟩ _ _)
              | (refine callK (c2 _) ?_; rintro _ _ ⟨rfl, rfl⟩ _ _)
              | (refine callK (c3 _) ?_; rintro _ _ ⟨rfl, rfl⟩ _ _)
              | (refine callK (cN _) ?_; rintro _ _ ⟨rfl, rfl⟩ _ _)
              | refine wb ?_ | refine wr ?_ | refine wk ?_ | refine we ?_ | refine ws ?_ | refine wq ?_
              | (refine wc rfl (fun hc => ?_) (fun hc => ?_) <;> (try simp at hc) <;> (try omega))
              | (refine ib (fun hc => ?_) (fun hc => ?_) <;> (try omega) <;> (try simp (disch := omega) only [if_pos, if_neg])))
              all_goals first | exact AW.le.refl _ | simp [ABlock, AThen, APost, ares, aresL, ares1]
        · have yb1 : rb = false := by rw [← hrb]; simp [yb0]
          subst yb1
          repeat' (first
          | (refine lwc fun R hR => ?_; simp [wrap_i64, wrap_u64, AW.row_get, insCells, h1, hkk, evF_glob, hget, hcell, hlen, hz, hz2, hk, yb0]; try simp (disch := omega) only [if_pos, if_neg, wrap_i64, wrap_u64])
          | (refine hR _ _ ?_; clear hR R) | (refine hK _ _ ?_; clear hK K) | refine lwn ?_ | refine lr ?_ | refine la ?_
          | refine wn fun K hK => ?_
          | simp only [wS, oFbJ_0]
          | refine wl Tryz.mx oFbJ_0 (by decide +kernel) fun K hK => ?_
          | (refine callK (c1 _) ?_; rintro _ _ ⟨rfl, rfl⟩ _ _)
          | (refine callK (c2 _) ?_; rintro _ _ ⟨rfl, rfl⟩ _ _)
          | (refine callK (c3 _) ?_; rintro _ _ ⟨rfl, rfl⟩ _ _)
          | (refine callK (cN _) ?_; rintro _ _ ⟨rfl, rfl⟩ _ _)
          | refine wb ?_ | refine wr ?_ | refine wk ?_ | refine we ?_ | refine ws ?_ | refine wq ?_
          | (refine wc rfl (fun hc => ?_) (fun hc => ?_) <;> (try simp at hc) <;> (try omega))
          | (refine ib (fun hc => ?_) (fun hc => ?_) <;> (try omega) <;> (try simp (disch := omega) only [if_pos, if_neg])))
          all_goals first | exact AW.le.refl _ | simp [ABlock, AThen, APost, ares, aresL, ares1]
      | true =>
        by_cases yb0 : b < 0
        · have yb1 : rb = false := by rw [← hrb]; simp; omega
          subst yb1
          repeat' (first
          | (refine lwc fun R hR => ?_; simp [wrap_i64, wrap_u64, AW.row_get, insCells, h1, hkk, evF_glob, hget, hcell, hlen, hz, hz2, hk, yb0]; try simp (disch := omega) only [if_pos, if_neg, wrap_i64, wrap_u64])
          | (refine hR _ _ ?_; clear hR R) | (refine hK _ _ ?_; clear hK K) | refine lwn ?_ | refine lr ?_ | refine la ?_
          | refine wn fun K hK => ?_
          | simp only [wS, oFbJ_0]
          | refine wl Tryz.mx oFbJ_0 (by decide +kernel) fun K hK => ?_
          | (refine callK (c1 _) ?_; rintro _ _ ⟨rfl, rfl⟩ _ _)
          | (refine callK (c2 _) ?_; rintro _ _ ⟨rfl, rfl⟩ _ _)
          | (refine callK (c3 _) ?_; rintro _ _ ⟨rfl, rfl⟩ _ _)
          | (refine callK (cN _) ?_; rintro _ _ ⟨rfl, rfl⟩ _ _)
          | refine wb ?_ | refine wr ?_ | refine wk ?_ | refine we ?_ | refine ws ?_ | refine wq ?_
          | (refine wc rfl (fun hc => ?_) (fun hc => ?_) <;> (try simp at hc) <;> (try omega))
          | (refine ib (fun hc => ?_) (fun hc => ?_) <;> (try omega) <;> (try simp (disch := omega) only [if_pos, if_neg])))
          all_goals first | exact AW.le.refl _ | simp [ABlock, AThen, APost, ares, aresL, ares1]
        by_cases yb2 : 8 ≤ b
        · have yb1 : rb = false := by rw [← hrb]; simp; omega
          subst yb1
          repeat' (first
          | (refine lwc fun R hR => ?_; simp [wrap_i64, wrap_u64, AW.row_get, insCells, h1, hkk, evF_glob, hget, hcell, hlen, hz, hz2, hk, yb0, yb2]; try simp (disch := omega) only [if_pos, if_neg, wrap_i64, wrap_u64])
          | (refine hR _ _ ?_; clear hR R) | (refine hK _ _ ?_; clear hK K) | refine lwn ?_ | refine lr ?_ | refine la ?_
          | refine wn fun K hK => ?_
          | simp only [wS, oFbJ_0]
          | refine wl Tryz.mx oFbJ_0 (by decide +kernel) fun K hK => ?_
          | (refine callK (c1 _) ?_; rintro _ _ ⟨rfl, rfl⟩ _ _)
          | (refine callK (c2 _) ?_; rintro _ _ ⟨rfl, rfl⟩ _ _)
          | (refine callK (c3 _) ?_; rintro _ _ ⟨rfl, rfl⟩ _ _)
          | (refine callK (cN _) ?_; rintro _ _ ⟨rfl, rfl⟩ _ _)
          | refine wb ?_ | refine wr ?_ | refine wk ?_ | refine we ?_ | refine ws ?_ | refine wq ?_
          | (refine wc rfl (fun hc => ?_) (fun hc => ?_) <;> (try simp at hc) <;> (try omega))
          | (refine ib (fun hc => ?_) (fun hc => ?_) <;> (try omega) <;> (try simp (disch := omega) only [if_pos, if_neg])))
          all_goals first | exact AW.le.refl _ | simp [ABlock, AThen, APost, ares, aresL, ares1]
        have yb1 : rb = true := by rw [← hrb]; simp; omega
        subst yb1
        cases uc with
        | false =>
          by_cases yc0 : c = 0
          · have yc1 : rc = true := by rw [← hrc]; simp [yc0]
            subst yc1
            subst yc0
            cases no with
            | false =>
              repeat' (first
              | (refine lwc fun R hR => ?_; simp [wrap_i64, wrap_u64, AW.row_get, insCells, h1, hkk, evF_glob, hget, hcell, hlen, hz, hz2, hk, yb0, yb2]; try simp (disch := omega) only [if_pos, if_neg, wrap_i64, wrap_u64])
              | (refine hR _ _ ?_; clear hR R) | (refine hK _ _ ?_; clear hK K) | refine lwn ?_ | refine lr ?_ | refine la ?_
              | refine wn fun K hK => ?_
              | simp only [wS, oFbJ_0]
              | refine wl Tryz.mx oFbJ_0 (by decide +kernel) fun K hK => ?_
              | (refine callK (c1 _) ?_; rintro _ _ ⟨rfl, rfl⟩ _ _)
              | (refine callK (c2 _) ?_; rintro _ _ ⟨rfl, rfl⟩ _ _)
              | (refine callK (c3 _) ?_; rintro _ _ ⟨rfl, rfl⟩ _ _)
              | (refine callK (cN _) ?_; rintro _ _ ⟨rfl, rfl⟩ _ _)
              | refine wb ?_ | refine wr ?_ | refine wk ?_ | refine we ?_ | refine ws ?_ | refine wq ?_
              | (refine wc rfl (fun hc => ?_) (fun hc => ?_) <;> (try simp at hc) <;> (try omega))
              | (refine ib (fun hc => ?_) (fun hc => ?_) <;> (try omega) <;> (try simp (disch := omega) only [if_pos, if_neg])))
              all_goals first | exact AW.le.refl _ | simp [ABlock, AThen, APost, ares, aresL, ares1]
            | true =>
              repeat' (first
              | (refine lwc fun R hR => ?_; simp [wrap_i64, wrap_u64, AW.row_get, insCells, h1, hkk, evF_glob, hget, hcell, hlen, hz, hz2, hk, yb0, yb2]; try simp (disch := omega) only [if_pos, if_neg, wrap_i64, wrap_u64])
              | (refine hR _ _ ?_; clear hR R) | (refine hK _ _ ?_; clear hK K) | refine lwn ?_ | refine lr ?_ | refine la ?_
              | refine wn fun K hK => ?_
              | simp only [wS, oFbJ_0]
              | refine wl Tryz.mx oFbJ_0 (by decide +kernel) fun K hK => ?_
              | (refine callK (c1 _) ?_; rintro _ _ ⟨rfl, rfl⟩ _ _)
              | (refine callK (c2 _) ?_; rintro _ _ ⟨rfl, rfl⟩ _ _)
              | (refine callK (c3 _) ?_; rintro _ _ ⟨rfl, rfl⟩ _ _)
              | (refine callK (cN _) ?_; rintro _ _ ⟨rfl, rfl⟩ _ _)
              | refine wb ?_ | refine wr ?_ | refine wk ?_ | refine we ?_ | refine ws ?_ | refine wq ?_
              | (refine wc rfl (fun hc => ?_) (fun hc => ?_) <;> (try simp at hc) <;> (try omega))
              | (refine ib (fun hc => ?_) (fun hc => ?_) <;> (try omega) <;> (try simp (disch := omega) only [if_pos, if_neg])))
              all_goals first | exact AW.le.refl _ | simp [ABlock, AThen, APost, ares, aresL, ares1]
          · have yc1 : rc = false := by rw [← hrc]; simp [yc0]
            subst yc1
            repeat' (first
            | (refine lwc fun R hR => ?_; simp [wrap_i64, wrap_u64, AW.row_get, insCells, h1, hkk, evF_glob, hget, hcell, hlen, hz, hz2, hk, yb0, yb2, yc0]; try simp (disch := omega) only [if_pos, if_neg, wrap_i64, wrap_u64])
            | (refine hR _ _ ?_; clear hR R) | (refine hK _ _ ?_; clear hK K) | refine lwn ?_ | refine lr ?_ | refine la ?_
            | refine wn fun K hK => ?_
            | simp only [wS, oFbJ_0]
            | refine wl Tryz.mx oFbJ_0 (by decide +kernel) fun K hK => ?_
            | (refine callK (c1 _) ?_; rintro _ _ ⟨rfl, rfl⟩ _ _)
            | (refine callK (c2 _) ?_; rintro _ _ ⟨rfl, rfl⟩ _ _)
            | (refine callK (c3 _) ?_; rintro _ _ ⟨rfl, rfl⟩ _ _)
            | (refine callK (cN _) ?_; rintro _ _ ⟨rfl, rfl⟩ _ _)
            | refine wb ?_ | refine wr ?_ | refine wk ?_ | refine we ?_ | refine ws ?_ | refine wq ?_
            | (refine wc rfl (fun hc => ?_) (fun hc => ?_) <;> (try simp at hc) <;> (try omega))
            | (refine ib (fun hc => ?_) (fun hc => ?_) <;> (try omega) <;> (try simp (disch := omega) only [if_pos, if_neg])))
            all_goals first | exact AW.le.refl _ | simp [ABlock, AThen, APost, ares, aresL, ares1]
        | true =>
          by_cases yc0 : c < 0
          · have yc1 : rc = false := by rw [← hrc]; simp; omega
            subst yc1
            repeat' (first
            | (refine lwc fun R hR => ?_; simp [wrap_i64, wrap_u64, AW.row_get, insCells, h1, hkk, evF_glob, hget, hcell, hlen, hz, hz2, hk, yb0, yb2, yc0]; try simp (disch := omega) only [if_pos, if_neg, wrap_i64, wrap_u64])
            | (refine hR _ _ ?_; clear hR R) | (refine hK _ _ ?_; clear hK K) | refine lwn ?_ | refine lr ?_ | refine la ?_
            | refine wn fun K hK => ?_
            | simp only [wS, oFbJ_0]
            | refine wl Tryz.mx oFbJ_0 (by decide +kernel) fun K hK => ?_
            | (refine callK (c1 _) ?_; rintro _ _ ⟨rfl, rfl⟩ _ _)
            | (refine callK (c2 _) ?_; rintro _ _ ⟨rfl, rfl⟩ _ _)
            | (refine callK (c3 _) ?_; rintro _ _ ⟨rfl, rfl⟩ _ _)
            | (refine callK (cN _) ?_; rintro _ _ ⟨rfl, rfl⟩ _ _)
            | refine wb ?_ | refine wr ?_ | refine wk ?_ | refine we ?_ | refine ws ?_ | refine wq ?_
            | (refine wc rfl (fun hc => ?_) (fun hc => ?_) <;> (try simp at hc) <;> (try omega))
            | (refine ib (fun hc => ?_) (fun hc => ?_) <;> (try omega) <;> (try simp (disch := omega) only [if_pos, if_neg])))
            all_goals first | exact AW.le.refl _ | simp [ABlock, AThen, APost, ares, aresL, ares1]
          by_cases yc2 : 8 ≤ c
          · have yc1 : rc = false := by rw [← hrc]; simp; omega
            subst yc1
            repeat' (first
            | (refine lwc fun R hR => ?_; simp [wrap_i64, wrap_u64, AW.row_get, insCells, h1, hkk, evF_glob, hget, hcell, hlen, hz, hz2, hk, yb0, yb2, yc0, yc2]; try simp (disch := omega) only [if_pos, if_neg, wrap_i64, wrap_u64])
            | (refine hR _ _ ?_; clear hR R) | (refine hK _ _ ?_; clear hK K) | refine lwn ?_ | refine lr ?_ | refine la ?_
            | refine wn fun K hK => ?_
            | simp only [wS, oFbJ_0]
            | refine wl Tryz.mx oFbJ_0 (by decide +kernel) fun K hK => ?_
            | (refine callK (c1 _) ?_; rintro _ _ ⟨rfl, rfl⟩ _ _)
            | (refine callK (c2 _) ?_; rintro _ _ ⟨rfl, rfl⟩ _ _)
            | (refine callK (c3 _) ?_; rintro _ _ ⟨rfl, rfl⟩ _ _)
            | (refine callK (cN _) ?_; rintro _ _ ⟨rfl, rfl⟩ _ _)
            | refine wb ?_ | refine wr ?_ | refine wk ?_ | refine we ?_ | refine ws ?_ | refine wq ?_
            | (refine wc rfl (fun hc => ?_) (fun hc => ?_) <;> (try simp at hc) <;> (try omega))
            | (refine ib (fun hc => ?_) (fun hc => ?_) <;> (try omega) <;> (try simp (disch := omega) only [if_pos, if_neg])))
            all_goals first | exact AW.le.refl _ | simp [ABlock, AThen, APost, ares, aresL, ares1]
          have yc1 : rc = true := by rw [← hrc]; simp; omega
          subst yc1
          cases no with
          | false =>
            repeat' (first
            | (refine lwc fun R hR => ?_; simp [wrap_i64, wrap_u64, AW.row_get, insCells, h1, hkk, evF_glob, hget, hcell, hlen, hz, hz2, hk, yb0, yb2, yc0, yc2]; try simp (disch := omega) only [if_pos, if_neg, wrap_i64, wrap_u64])
            | (refine hR _ _ ?_; clear hR R) | (refine hK _ _ ?_; clear hK K) | refine lwn ?_ | refine lr ?_ | refine la ?_
            | refine wn fun K hK => ?_
            | simp only [wS, oFbJ_0]
            | refine wl Tryz.mx oFbJ_0 (by decide +kernel) fun K hK => ?_
            | (refine callK (c1 _) ?_; rintro _ _ ⟨rfl, rfl⟩ _ _)
            | (refine callK (c2 _) ?_; rintro _ _ ⟨rfl, rfl⟩ _ _)
            | (refine callK (c3 _) ?_; rintro _ _ ⟨rfl, rfl⟩ _ _)
            | (refine callK (cN _) ?_; rintro _ _ ⟨rfl, rfl⟩ _ _)
            | refine wb ?_ | refine wr ?_ | refine wk ?_ | refine we ?_ | refine ws ?_ | refine wq ?_
            | (refine wc rfl (fun hc => ?_) (fun hc => ?_) <;> (try simp at hc) <;> (try omega))
            | (refine ib (fun hc => ?_) (fun hc => ?_) <;> (try omega) <;> (try simp (disch := omega) only [if_pos, if_neg])))
            all_goals first | exact AW.le.refl _ | simp [ABlock, AThen, APost, ares, aresL, ares1]
          | true =>
            repeat' (first
            | (refine lwc fun R hR => ?_; simp [wrap_i64, wrap_u64, AW.row_get, insCells, h1, hkk, evF_glob, hget, hcell, hlen, hz, hz2, hk, yb0, yb2, yc0, yc2]; try simp (disch := omega) only [if_pos, if_neg, wrap_i64, wrap_u64])
            | (refine hR _ _ ?_; clear hR R) | (refine hK _ _ ?_; clear hK K) | refine lwn ?_ | refine lr ?_ | refine la ?_
            | refine wn fun K hK => ?_
            | simp only [wS, oFbJ_0]
            | refine wl Tryz.mx oFbJ_0 (by decide +kernel) fun K hK => ?_
            | (refine callK (c1 _) ?_; rintro _ _ ⟨rfl, rfl⟩ _ _)
            | (refine callK (c2 _) ?_; rintro _ _ ⟨rfl, rfl⟩ _ _)
            | (refine callK (c3 _) ?_; rintro _ _ ⟨rfl, rfl⟩ _ _)
            | (refine callK (cN _) ?_; rintro _ _ ⟨rfl, rfl⟩ _ _)
            | refine wb ?_ | refine wr ?_ | refine wk ?_ | refine we ?_ | refine ws ?_ | refine wq ?_
            | (refine wc rfl (fun hc => ?_) (fun hc => ?_) <;> (try simp at hc) <;> (try omega))
            | (refine ib (fun hc => ?_) (fun hc => ?_) <;> (try omega) <;> (try simp (disch := omega) only [if_pos, if_neg])))
            all_goals first | exact AW.le.refl _ | simp [ABlock, AThen, APost, ares, aresL, ares1]
    · have ya1 : ra = false := by rw [← hra]; simp [ya0]
      subst ya1
      repeat' (first
      | (refine lwc fun R hR => ?_; simp [wrap_i64, wrap_u64, AW.row_get, insCells, h1, hkk, evF_glob, hget, hcell, hlen, hz, hz2, hk, ya0]; try simp (disch := omega) only [if_pos, if_neg, wrap_i64, wrap_u64])
      | (refine hR _ _ ?_; clear hR R) | (refine hK _ _ ?_; clear hK K) | refine lwn ?_ | refine lr ?_ | refine la ?_
      | refine wn fun K hK => ?_
      | simp only [wS, oFbJ_0]
      | refine wl Tryz.mx oFbJ_0 (by decide +kernel) fun K hK => ?_
      | (refine callK (c1 _) ?_; rintro _ _ ⟨rfl, rfl⟩ _ _)
      | (refine callK (c2 _) ?_; rintro _ _ ⟨rfl, rfl⟩ _ _)
      | (refine callK (c3 _) ?_; rintro _ _ ⟨rfl, rfl⟩ _ _)
      | (refine callK (cN _) ?_; rintro _ _ ⟨rfl, rfl⟩ _ _)
      | refine wb ?_ | refine wr ?_ | refine wk ?_ | refine we ?_ | refine ws ?_ | refine wq ?_
      | (refine wc rfl (fun hc => ?_) (fun hc => ?_) <;> (try simp at hc) <;> (try omega))
      | (refine ib (fun hc => ?_) (fun hc => ?_) <;> (try omega) <;> (try simp (disch := omega) only [if_pos, if_neg])))
      all_goals first | exact AW.le.refl _ | simp [ABlock, AThen, APost, ares, aresL, ares1]
  | true =>
    by_cases ya0 : a < 0
    · have ya1 : ra = false := by rw [← hra]; simp; omega
      subst ya1
      repeat' (first
      | (refine lwc fun R hR => ?_; simp [wrap_i64, wrap_u64, AW.row_get, insCells, h1, hkk, evF_glob, hget, hcell, hlen, hz, hz2, hk, ya0]; try simp (disch := omega) only [if_pos, if_neg, wrap_i64, wrap_u64])
      | (refine hR _ _ ?_; clear hR R) | (refine hK _ _ ?_; clear hK K) | refine lwn ?_ | refine lr ?_ | refine la ?_
      | refine wn fun K hK => ?_
      | simp only [wS, oFbJ_0]
      | refine wl Tryz.mx oFbJ_0 (by decide +kernel) fun K hK => ?_
      | (refine callK (c1 _) ?_; rintro _ _ ⟨rfl, rfl⟩ _ _)
      | (refine callK (c2 _) ?_; rintro _ _ ⟨rfl, rfl⟩ _ _)
      | (refine callK (c3 _) ?_; rintro _ _ ⟨rfl, rfl⟩ _ _)
      | (refine callK (cN _) ?_; rintro _ _ ⟨rfl, rfl⟩ _ _)
      | refine wb ?_ | refine wr ?_ | refine wk ?_ | refine we ?_ | refine ws ?_ | refine wq ?_
      | (refine wc rfl (fun hc => ?_) (fun hc => ?_) <;> (try simp at hc) <;> (try omega))
      | (refine ib (fun hc => ?_) (fun hc => ?_) <;> (try omega) <;> (try simp (disch := omega) only [if_pos, if_neg])))
      all_goals first | exact AW.le.refl _ | simp [ABlock, AThen, APost, ares, aresL, ares1]
    by_cases ya2 : 8 ≤ a
    · have ya1 : ra = false := by rw [← hra]; simp; omega
      subst ya1
      repeat' (first
      | (refine lwc fun R hR => ?_; simp [wrap_i64, wrap_u64, AW.row_get, insCells, h1, hkk, evF_glob, hget, hcell, hlen, hz, hz2, hk, ya0, ya2]; try simp (disch := omega) only [if_pos, if_neg, wrap_i64, wrap_u64])
      | (refine hR _ _ ?_; clear hR R) | (refine hK _ _ ?_; clear hK K) | refine lwn ?_ | refine lr ?_ | refine la ?_
      | refine wn fun K hK => ?_
      | simp only [wS, oFbJ_0]
      | refine wl Tryz.mx oFbJ_0 (by decide +kernel) fun K hK => ?_
      | (refine callK (c1 _) ?_; rintro _ _ ⟨rfl, rfl⟩ _ _)
      | (refine callK (c2 _) ?_; rintro _ _ ⟨rfl, rfl⟩ _ _)
      | (refine callK (c3 _) ?_; rintro _ _ ⟨rfl, rfl⟩ _ _)
      | (refine callK (cN _) ?_; rintro _ _ ⟨rfl, rfl⟩ _ _)
      | refine wb ?_ | refine wr ?_ | refine wk ?_ | refine we ?_ | refine ws ?_ | refine wq ?_
      | (refine wc rfl (fun hc => ?_) (fun hc => ?_) <;> (try simp at hc) <;> (try omega))
      | (refine ib (fun hc => ?_) (fun hc => ?_) <;> (try omega) <;> (try simp (disch := omega) only [if_pos, if_neg])))
      all_goals first | exact AW.le.refl _ | simp [ABlock, AThen, APost, ares, aresL, ares1]
    have ya1 : ra = true := by rw [← hra]; simp; omega
    subst ya1
    cases ub with
    | false =>
      by_cases yb0 : b = 0
      · have yb1 : rb = true := by rw [← hrb]; simp [yb0]
        subst yb1
        subst yb0
        cases uc with
        | false =>
          by_cases yc0 : c = 0
          · have yc1 : rc = true := by rw [← hrc]; simp [yc0]
            subst yc1
            subst yc0
            cases no with
            | false =>
              repeat' (first
              | (refine lwc fun R hR => ?_; simp [wrap_i64, wrap_u64, AW.row_get, insCells, h1, hkk, evF_glob, hget, hcell, hlen, hz, hz2, hk, ya0, ya2]; try simp (disch := omega) only [if_pos, if_neg, wrap_i64, wrap_u64])
              | (refine hR _ _ ?_; clear hR R) | (refine hK _ _ ?_; clear hK K) | refine lwn ?_ | refine lr ?_ | refine la ?_
              | refine wn fun K hK => ?_
              | simp only [wS, oFbJ_0]
              | refine wl Tryz.mx oFbJ_0 (by decide +kernel) fun K hK => ?_
              | (refine callK (c1 _) ?_; rintro _ _ ⟨rfl, rfl⟩ _ _)
              | (refine callK (c2 _) ?_; rintro _ _ ⟨rfl, rfl⟩ _ _)
              | (refine callK (c3 _) ?_; rintro _ _ ⟨rfl, rfl⟩ _ _)
              | (refine callK (cN _) ?_; rintro _ _ ⟨rfl, rfl⟩ _ _)
              | refine wb ?_ | refine wr ?_ | refine wk ?_ | refine we ?_ | refine ws ?_ | refine wq ?_
              | (refine wc rfl (fun hc => ?_) (fun hc => ?_) <;> (try simp at hc) <;> (try omega))
              | (refine ib (fun hc => ?_) (fun hc => ?_) <;> (try omega) <;> (try simp (disch := omega) only [if_pos, if_neg])))
              all_goals first | exact AW.le.refl _ | simp [ABlock, AThen, APost, ares, aresL, ares1]
            | true =>
              repeat' (first
              | (refine lwc fun R hR => ?_; simp [wrap_i64, wrap_u64, AW.row_get, insCells, h1, hkk, evF_glob, hget, hcell, hlen, hz, hz2, hk, ya0, ya2]; try simp (disch := omega) only [if_pos, if_neg, wrap_i64, wrap_u64])
              | (refine hR _ _ ?_; clear hR R) | (refine hK _ _ ?_; clear hK K) | refine lwn ?_ | refine lr ?_ | refine la ?_
              | refine wn fun K hK => ?_
              | simp only [wS, oFbJ_0]
              | refine wl Tryz.mx oFbJ_0 (by decide +kernel) fun K hK => ?_
              | (refine callK (c1 _) ?_; rintro _ _ ⟨rfl, rfl⟩ _ _)
              | (refine callK (c2 _) ?_; rintro _ _ ⟨rfl, rfl⟩ _ _)
              | (refine callK (c3 _) ?_; rintro _ _ ⟨rfl, rfl⟩ _ _)
              | (refine callK (cN _) ?_; rintro _ _ ⟨rfl, rfl⟩ _ _)
              | refine wb ?_ | refine wr ?_ | refine wk ?_ | refine we ?_ | refine ws ?_ | refine wq ?_
              | (refine wc rfl (fun hc => ?_) (fun hc => ?_) <;> (try simp at hc) <;> (try omega))
              | (refine ib (fun hc => ?_) (fun hc => ?_) <;> (try omega) <;> (try simp (disch := omega) only [if_pos, if_neg])))
              all_goals first | exact AW.le.refl _ | simp [ABlock, AThen, APost, ares, aresL, ares1]
          · have yc1 : rc = false := by rw [← hrc]; simp [yc0]
            subst yc1
            repeat' (first
            | (refine lwc fun R hR => ?_; simp [wrap_i64, wrap_u64, AW.row_get, insCells, h1, hkk, evF_glob, hget, hcell, hlen, hz, hz2, hk, ya0, ya2, yc0]; try simp (disch := omega) only [if_pos, if_neg, wrap_i64, wrap_u64])
            | (refine hR _ _ ?_; clear hR R) | (refine hK _ _ ?_; clear hK K) | refine lwn ?_ | refine lr ?_ | refine la ?_
            | refine wn fun K hK => ?_
            | simp only [wS, oFbJ_0]
            | refine wl Tryz.mx oFbJ_0 (by decide +kernel) fun K hK => ?_
            | (refine callK (c1 _) ?_; rintro _ _ ⟨rfl, rfl⟩ _ _)
            | (refine callK (c2 _) ?_; rintro _ _ ⟨rfl, rfl⟩ _ _)
            | (refine callK (c3 _) ?_; rintro _ _ ⟨rfl, rfl⟩ _ _)
            | (refine callK (cN _) ?_; rintro _ _ ⟨rfl, rfl⟩ _ _)
            | refine wb ?_ | refine wr ?_ | refine wk ?_ | refine we ?_ | refine ws ?_ | refine wq ?_
            | (refine wc rfl (fun hc => ?_) (fun hc => ?_) <;> (try simp at hc) <;> (try omega))
            | (refine ib (fun hc => ?_) (fun hc => ?_) <;> (try omega) <;> (try simp (disch := omega) only [if_pos, if_neg])))
            all_goals first | exact AW.le.refl _ | simp [ABlock, AThen, APost, ares, aresL, ares1]
        | true =>
          by_cases yc0 : c < 0
          · have yc1 : rc = false := by rw [← hrc]; simp; omega
            subst yc1
            repeat' (first
            | (refine lwc fun R hR => ?_; simp [wrap_i64, wrap_u64, AW.row_get, insCells, h1, hkk, evF_glob, hget, hcell, hlen, hz, hz2, hk, ya0, ya2, yc0]; try simp (disch := omega) only [if_pos, if_neg, wrap_i64, wrap_u64])
            | (refine hR _ _ ?_; clear hR R) | (refine hK _ _ ?_; clear hK K) | refine lwn ?_ | refine lr ?_ | refine la ?_
            | refine wn fun K hK => ?_
            | simp only [wS, oFbJ_0]
            | refine wl Tryz.mx oFbJ_0 (by decide +kernel) fun K hK => ?_
            | (refine callK (c1 _) ?_; rintro _ _ ⟨rfl, rfl⟩ _ _)
            | (refine callK (c2 _) ?_; rintro _ _ ⟨rfl, rfl⟩ _ _)
            | (refine callK (c3 _) ?_; rintro _ _ ⟨rfl, rfl⟩ _ _)
            | (refine callK (cN _) ?_; rintro _ _ ⟨rfl, rfl⟩ _ _)
            | refine wb ?_ | refine wr ?_ | refine wk ?_ | refine we ?_ | refine ws ?_ | refine wq ?_
            | (refine wc rfl (fun hc => ?_) (fun hc => ?_) <;> (try simp at hc) <;> (try omega))
            | (refine ib (fun hc => ?_) (fun hc => ?_) <;> (try omega) <;> (try simp (disch := omega) only [if_pos, if_neg])))
            all_goals first | exact AW.le.refl _ | simp [ABlock, AThen, APost, ares, aresL, ares1]
          by_cases yc2 : 8 ≤ c
          · have yc1 : rc = false := by rw [← hrc]; simp; omega
            subst yc1
            repeat' (first
            | (refine lwc fun R hR => ?_; simp [wrap_i64, wrap_u64, AW.row_get, insCells, h1, hkk, evF_glob, hget, hcell, hlen, hz, hz2, hk, ya0, ya2, yc0, yc2]; try simp (disch := omega) only [if_pos, if_neg, wrap_i64, wrap_u64])
            | (refine hR _ _ ?_; clear hR R) | (refine hK _ _ ?_; clear hK K) | refine lwn ?_ | refine lr ?_ | refine la ?_
            | refine wn fun K hK => ?_
            | simp only [wS, oFbJ_0]
            | refine wl Tryz.mx oFbJ_0 (by decide +kernel) fun K hK => ?_
            | (refine callK (c1 _) ?_; rintro _ _ ⟨rfl, rfl⟩ _ _)
            | (refine callK (c2 _) ?_; rintro _ _ ⟨rfl, rfl⟩ _ _)
            | (refine callK (c3 _) ?_; rintro _ _ ⟨rfl, rfl⟩ _ _)
            | (refine callK (cN _) ?_; rintro _ _ ⟨rfl, rfl⟩ _ _)
            | refine wb ?_ | refine wr ?_ | refine wk ?_ | refine we ?_ | refine ws ?_ | refine wq ?_
            | (refine wc rfl (fun hc => ?_) (fun hc => ?_) <;> (try simp at hc) <;> (try omega))
            | (refine ib (fun hc => ?_) (fun hc => ?_) <;> (try omega) <;> (try simp (disch := omega) only [if_pos, if_neg])))
            all_goals first | exact AW.le.refl _ | simp [ABlock, AThen, APost, ares, aresL, ares1]
          have yc1 : rc = true := by rw [← hrc]; simp; omega
          subst yc1
          cases no with
          | false =>
            repeat' (first
            | (refine lwc fun R hR => ?_; simp [wrap_i64, wrap_u64, AW.row_get, insCells, h1, hkk, evF_glob, hget, hcell, hlen, hz, hz2, hk, ya0, ya2, yc0, yc2]; try simp (disch := omega) only [if_pos, if_neg, wrap_i64, wrap_u64])
            | (refine hR _ _ ?_; clear hR R) | (refine hK _ _ ?_; clear hK K) | refine lwn ?_ | refine lr ?_ | refine la ?_
            | refine wn fun K hK => ?_
            | simp only [wS, oFbJ_0]
            | refine wl Tryz.mx oFbJ_0 (by decide +kernel) fun K hK => ?_
            | (refine callK (c1 _) ?_; rintro _ _ ⟨rfl, rfl⟩ _ _)
            | (refine callK (c2 _) ?_; rintro _ _ ⟨rfl, rfl⟩ _ _)
            | (refine callK (c3 _) ?_; rintro _ _ ⟨rfl, rfl⟩ _ _)
            | (refine callK (cN _) ?_; rintro _ _ ⟨rfl, rfl⟩ _ _)
            | refine wb ?_ | refine wr ?_ | refine wk ?_ | refine we ?_ | refine ws ?_ | refine wq ?_
            | (refine wc rfl (fun hc => ?_) (fun hc => ?_) <;> (try simp at hc) <;> (try omega))
            | (refine ib (fun hc => ?_) (fun hc => ?_) <;> (try omega) <;> (try simp (disch := omega) only [if_pos, if_neg])))
            all_goals first | exact AW.le.refl _ | simp [ABlock, AThen, APost, ares, aresL, ares1]
          | true =>
            repeat' (first
            | (refine lwc fun R hR => ?_; simp [wrap_i64, wrap_u64, AW.row_get, insCells, h1, hkk, evF_glob, hget, hcell, hlen, hz, hz2, hk, ya0, ya2, yc0, yc2]; try simp (disch := omega) only [if_pos, if_neg, wrap_i64, wrap_u64])
            | (refine hR _ _ ?_; clear hR R) | (refine hK _ _ ?_; clear hK K) | refine lwn ?_ | refine lr ?_ | refine la ?_
            | refine wn fun K hK => ?_
            | simp only [wS, oFbJ_0]
            | refine wl Tryz.mx oFbJ_0 (by decide +kernel) fun K hK => ?_
            | (refine callK (c1 _) ?_; rintro _ _ ⟨rfl, rfl⟩ _ _)
            | (refine callK (c2 _) ?_; rintro _ _ ⟨rfl, rfl⟩ _ _)
            | (refine callK (c3 _) ?_; rintro _ _ ⟨rfl, rfl⟩ _ _)
            | (refine callK (cN _) ?_; rintro _ _ ⟨rfl, rfl⟩ _ _)
            | refine wb ?_ | refine wr ?_ | refine wk ?_ | refine we ?_ | refine ws ?_ | refine wq ?_
            | (refine wc rfl (fun hc => ?_) (fun hc => ?_) <;> (try simp at hc) <;> (try omega))
            | (refine ib (fun hc => ?_) (fun hc => ?_) <;> (try omega) <;> (try simp (disch := omega) only [if_pos, if_neg])))
            all_goals first | exact AW.le.refl _ | simp [ABlock, AThen, APost, ares, aresL, ares1]
      · have yb1 : rb = false := by rw [← hrb]; simp [yb0]
        subst yb1
        repeat' (first
        | (refine lwc fun R hR => ?_; simp [wrap_i64, wrap_u64, AW.row_get, insCells, h1, hkk, evF_glob, hget, hcell, hlen, hz, hz2, hk, ya0, ya2, yb0]; try simp (disch := omega) only [if_pos, if_neg, wrap_i64, wrap_u64])
        | (refine hR _ _ ?_; clear hR R) | (refine hK _ _ ?_; clear hK K) | refine lwn ?_ | refine lr ?_ | refine la ?_
        | refine wn fun K hK => ?_
        | simp only [wS, oFbJ_0]
        | refine wl Tryz.mx oFbJ_0 (by decide +kernel) fun K hK => ?_
        | (refine callK (c1 _) ?_; rintro _ _ ⟨rfl, rfl⟩ _ _)
        | (refine callK (c2 _) ?_; rintro _ _ ⟨rfl, rfl⟩ _ _)
        | (refine callK (c3 _) ?_; rintro _ _ ⟨rfl, rfl⟩ _ _)
        | (refine callK (cN _) ?_; rintro _ _ ⟨rfl, rfl⟩ _ _)
        | refine wb ?_ | refine wr ?_ | refine wk ?_ | refine we ?_ | refine ws ?_ | refine wq ?_
        | (refine wc rfl (fun hc => ?_) (fun hc => ?_) <;> (try simp at hc) <;> (try omega))
        | (refine ib (fun hc => ?_) (fun hc => ?_) <;> (try omega) <;> (try simp (disch := omega) only [if_pos, if_neg])))
        all_goals first | exact AW.le.refl _ | simp [ABlock, AThen, APost, ares, aresL, ares1]
    | true =>
      by_cases yb0 : b < 0
      · have yb1 : rb = false := by rw [← hrb]; simp; omega
        subst yb1
        repeat' (first
        | (refine lwc fun R hR => ?_; simp [wrap_i64, wrap_u64, AW.row_get, insCells, h1, hkk, evF_glob, hget, hcell, hlen, hz, hz2, hk, ya0, ya2, yb0]; try simp (disch := omega) only [if_pos, if_neg, wrap_i64, wrap_u64])
        | (refine hR _ _ ?_; clear hR R) | (refine hK _ _ ?_; clear hK K) | refine lwn ?_ | refine lr ?_ | refine la ?_
        | refine wn fun K hK => ?_
        | simp only [wS, oFbJ_0]
        | refine wl Tryz.mx oFbJ_0 (by decide +kernel) fun K hK => ?_
        | (refine callK (c1 _) ?_; rintro _ _ ⟨rfl, rfl⟩ _ _)
        | (refine callK (c2 _) ?_; rintro _ _ ⟨rfl, rfl⟩ _ _)
        | (refine callK (c3 _) ?_; rintro _ _ ⟨rfl, rfl⟩ _ _)
        | (refine callK (cN _) ?_; rintro _ _ ⟨rfl, rfl⟩ _ _)
        | refine wb ?_ | refine wr ?_ | refine wk ?_ | refine we ?_ | refine ws ?_ | refine wq ?_
        | (refine wc rfl (fun hc => ?_) (fun hc => ?_) <;> (try simp at hc) <;> (try omega))
        | (refine ib (fun hc => ?_) (fun hc => ?_) <;> (try omega) <;> (try simp (disch := omega) only [if_pos, if_neg])))
        all_goals first | exact AW.le.refl _ | simp [ABlock, AThen, APost, ares, aresL, ares1]
      by_cases yb2 : 8 ≤ b
      · have yb1 : rb = false := by rw [← hrb]; simp; omega
        subst yb1
        repeat' (first
        | (refine lwc fun R hR => ?_; simp [wrap_i64, wrap_u64, AW.row_get, insCells, h1, hkk, evF_glob, hget, hcell, hlen, hz, hz2, hk, ya0, ya2, yb0, yb2]; try simp (disch := omega) only [if_pos, if_neg, wrap_i64, wrap_u64])
        | (refine hR _ _ ?_; clear hR R) | (refine hK _ _ ?_; clear hK K) | refine lwn ?_ | refine lr ?_ | refine la ?_
        | refine wn fun K hK => ?_
        | simp only [wS, oFbJ_0]
        | refine wl Tryz.mx oFbJ_0 (by decide +kernel) fun K hK => ?_
        | (refine callK (c1 _) ?_; rintro _ _ ⟨rfl, rfl⟩ _ _)
        | (refine callK (c2 _) ?_; rintro _ _ ⟨rfl, rfl⟩ _ _)
        | (refine callK (c3 _) ?_; rintro _ _ ⟨rfl, rfl⟩ _ _)
        | (refine callK (cN _) ?_; rintro _ _ ⟨rfl, rfl⟩ _ _)
        | refine wb ?_ | refine wr ?_ | refine wk ?_ | refine we ?_ | refine ws ?_ | refine wq ?_
        | (refine wc rfl (fun hc => ?_) (fun hc => ?_) <;> (try simp at hc) <;> (try omega))
        | (refine ib (fun hc => ?_) (fun hc => ?_) <;> (try omega) <;> (try simp (disch := omega) only [if_pos, if_neg])))
        all_goals first | exact AW.le.refl _ | simp [ABlock, AThen, APost, ares, aresL, ares1]
      have yb1 : rb = true := by rw [← hrb]; simp; omega
      subst yb1
      cases uc with
      | false =>
        by_cases yc0 : c = 0
        · have yc1 : rc = true := by rw [← hrc]; simp [yc0]
          subst yc1
          subst yc0
          cases no with
          | false =>
            repeat' (first
            | (refine lwc fun R hR => ?_; simp [wrap_i64, wrap_u64, AW.row_get, insCells, h1, hkk, evF_glob, hget, hcell, hlen, hz, hz2, hk, ya0, ya2, yb0, yb2]; try simp (disch := omega) only [if_pos, if_neg, wrap_i64, wrap_u64])
            | (refine hR _ _ ?_; clear hR R) | (refine hK _ _ ?_; clear hK K) | refine lwn ?_ | refine lr ?_ | refine la ?_
            | refine wn fun K hK => ?_
            | simp only [wS, oFbJ_0]
            | refine wl Tryz.mx oFbJ_0 (by decide +kernel) fun K hK => ?_
            | (refine callK (c1 _) ?_; rintro _ _ ⟨rfl, rfl⟩ _ _)
            | (refine callK (c2 _) ?_; rintro _ _ ⟨rfl, rfl⟩ _ _)
            | (refine callK (c3 _) ?_; rintro _ _ ⟨rfl, rfl⟩ _ _)
            | (refine callK (cN _) ?_; rintro _ _ ⟨rfl, rfl⟩ _ _)
            | refine wb ?_ | refine wr ?_ | refine wk ?_ | refine we ?_ | refine ws ?_ | refine wq ?_
            | (refine wc rfl (fun hc => ?_) (fun hc => ?_) <;> (try simp at hc) <;> (try omega))
            | (refine ib (fun hc => ?_) (fun hc => ?_) <;> (try omega) <;> (try simp (disch := omega) only [if_pos, if_neg])))
            all_goals first | exact AW.le.refl _ | simp [ABlock, AThen, APost, ares, aresL, ares1]
          | true =>
            repeat' (first
            | (refine lwc fun R hR => ?_; simp [wrap_i64, wrap_u64, AW.row_get, insCells, h1, hkk, evF_glob, hget, hcell, hlen, hz, hz2, hk, ya0, ya2, yb0, yb2]; try simp (disch := omega) only [if_pos, if_neg, wrap_i64, wrap_u64])
            | (refine hR _ _ ?_; clear hR R) | (refine hK _ _ ?_; clear hK K) | refine lwn ?_ | refine lr ?_ | refine la ?_
            | refine wn fun K hK => ?_
            | simp only [wS, oFbJ_0]
            | refine wl Tryz.mx oFbJ_0 (by decide +kernel) fun K hK => ?_
            | (refine callK (c1 _) ?_; rintro _ _ ⟨rfl, rfl⟩ _ _)
            | (refine callK (c2 _) ?_; rintro _ _ ⟨rfl, rfl⟩ _ _)
            | (refine callK (c3 _) ?_; rintro _ _ ⟨rfl, rfl⟩ _ _)
            | (refine callK (cN _) ?_; rintro _ _ ⟨rfl, rfl⟩ _ _)
            | refine wb ?_ | refine wr ?_ | refine wk ?_ | refine we ?_ | refine ws ?_ | refine wq ?_
            | (refine wc rfl (fun hc => ?_) (fun hc => ?_) <;> (try simp at hc) <;> (try omega))
            | (refine ib (fun hc => ?_) (fun hc => ?_) <;> (try omega) <;> (try simp (disch := omega) only [if_pos, if_neg])))
            all_goals first | exact AW.le.refl _ | simp [ABlock, AThen, APost, ares, aresL, ares1]
        · have yc1 : rc = false := by rw [← hrc]; simp [yc0]
          subst yc1
          repeat' (first
          | (refine lwc fun R hR => ?_; simp [wrap_i64, wrap_u64, AW.row_get, insCells, h1, hkk, evF_glob, hget, hcell, hlen, hz, hz2, hk, ya0, ya2, yb0, yb2, yc0]; try simp (disch := omega) only [if_pos, if_neg, wrap_i64, wrap_u64])
          | (refine hR _ _ ?_; clear hR R) | (refine hK _ _ ?_; clear hK K) | refine lwn ?_ | refine lr ?_ | refine la ?_
          | refine wn fun K hK => ?_
          | simp only [wS, oFbJ_0]
          | refine wl Tryz.mx oFbJ_0 (by decide +kernel) fun K hK => ?_
          | (refine callK (c1 _) ?_; rintro _ _ ⟨rfl, rfl⟩ _ _)
          | (refine callK (c2 _) ?_; rintro _ _ ⟨rfl, rfl⟩ _ _)
          | (refine callK (c3 _) ?_; rintro _ _ ⟨rfl, rfl⟩ _ _)
          | (refine callK (cN _) ?_; rintro _ _ ⟨rfl, rfl⟩ _ _)
          | refine wb ?_ | refine wr ?_ | refine wk ?_ | refine we ?_ | refine ws ?_ | refine wq ?_
          | (refine wc rfl (fun hc => ?_) (fun hc => ?_) <;> (try simp at hc) <;> (try omega))
          | (refine ib (fun hc => ?_) (fun hc => ?_) <;> (try omega) <;> (try simp (disch := omega) only [if_pos, if_neg])))
          all_goals first | exact AW.le.refl _ | simp [ABlock, AThen, APost, ares, aresL, ares1]
      | true =>
        by_cases yc0 : c < 0
        · have yc1 : rc = false := by rw [← hrc]; simp; omega
          subst yc1
          repeat' (first
          | (refine lwc fun R hR => ?_; simp [wrap_i64, wrap_u64, AW.row_get, insCells, h1, hkk, evF_glob, hget, hcell, hlen, hz, hz2, hk, ya0, ya2, yb0, yb2, yc0]; try simp (disch := omega) only [if_pos, if_neg, wrap_i64, wrap_u64])
          | (refine hR _ _ ?_; clear hR R) | (refine hK _ _ ?_; clear hK K) | refine lwn ?_ | refine lr ?_ | refine la ?_
          | refine wn fun K hK => ?_
          | simp only [wS, oFbJ_0]
          | refine wl Tryz.mx oFbJ_0 (by decide +kernel) fun K hK => ?_
          | (refine callK (c1 _) ?_; rintro _ _ ⟨rfl, rfl⟩ _ _)
          | (refine callK (c2 _) ?_; rintro _ _ ⟨rfl, rfl⟩ _ _)
          | (refine callK (c3 _) ?_; rintro _ _ ⟨rfl, rfl⟩ _ _)
          | (refine callK (cN _) ?_; rintro _ _ ⟨rfl, rfl⟩ _ _)
          | refine wb ?_ | refine wr ?_ | refine wk ?_ | refine we ?_ | refine ws ?_ | refine wq ?_
          | (refine wc rfl (fun hc => ?_) (fun hc => ?_) <;> (try simp at hc) <;> (try omega))
          | (refine ib (fun hc => ?_) (fun hc => ?_) <;> (try omega) <;> (try simp (disch := omega) only [if_pos, if_neg])))
          all_goals first | exact AW.le.refl _ | simp [ABlock, AThen, APost, ares, aresL, ares1]
        by_cases yc2 : 8 ≤ c
        · have yc1 : rc = false := by rw [← hrc]; simp; omega
          subst yc1
          repeat' (first
          | (refine lwc fun R hR => ?_; simp [wrap_i64, wrap_u64, AW.row_get, insCells, h1, hkk, evF_glob, hget, hcell, hlen, hz, hz2, hk, ya0, ya2, yb0, yb2, yc0, yc2]; try simp (disch := omega) only [if_pos, if_neg, wrap_i64, wrap_u64])
          | (refine hR _ _ ?_; clear hR R) | (refine hK _ _ ?_; clear hK K) | refine lwn ?_ | refine lr ?_ | refine la ?_
          | refine wn fun K hK => ?_
          | simp only [wS, oFbJ_0]
          | refine wl Tryz.mx oFbJ_0 (by decide +kernel) fun K hK => ?_
          | (refine callK (c1 _) ?_; rintro _ _ ⟨rfl, rfl⟩ _ _)
          | (refine callK (c2 _) ?_; rintro _ _ ⟨rfl, rfl⟩ _ _)
          | (refine callK (c3 _) ?_; rintro _ _ ⟨rfl, rfl⟩ _ _)
          | (refine callK (cN _) ?_; rintro _ _ ⟨rfl, rfl⟩ _ _)
          | refine wb ?_ | refine wr ?_ | refine wk ?_ | refine we ?_ | refine ws ?_ | refine wq ?_
          | (refine wc rfl (fun hc => ?_) (fun hc => ?_) <;> (try simp at hc) <;> (try omega))
          | (refine ib (fun hc => ?_) (fun hc => ?_) <;> (try omega) <;> (try simp (disch := omega) only [if_pos, if_neg])))
          all_goals first | exact AW.le.refl _ | simp [ABlock, AThen, APost, ares, aresL, ares1]
        have yc1 : rc = true := by rw [← hrc]; simp; omega
        subst yc1
        cases no with
        | false =>
          repeat' (first
          | (refine lwc fun R hR => ?_; simp [wrap_i64, wrap_u64, AW.row_get, insCells, h1, hkk, evF_glob, hget, hcell, hlen, hz, hz2, hk, ya0, ya2, yb0, yb2, yc0, yc2]; try simp (disch := omega) only [if_pos, if_neg, wrap_i64, wrap_u64])
          | (refine hR _ _ ?_; clear hR R) | (refine hK _ _ ?_; clear hK K) | refine lwn ?_ | refine lr ?_ | refine la ?_
          | refine wn fun K hK => ?_
          | simp only [wS, oFbJ_0]
          | refine wl Tryz.mx oFbJ_0 (by decide +kernel) fun K hK => ?_
          | (refine callK (c1 _) ?_; rintro _ _ ⟨rfl, rfl⟩ _ _)
          | (refine callK (c2 _) ?_; rintro _ _ ⟨rfl, rfl⟩ _ _)
          | (refine callK (c3 _) ?_; rintro _ _ ⟨rfl, rfl⟩ _ _)
          | (refine callK (cN _) ?_; rintro _ _ ⟨rfl, rfl⟩ _ _)
          | refine wb ?_ | refine wr ?_ | refine wk ?_ | refine we ?_ | refine ws ?_ | refine wq ?_
          | (refine wc rfl (fun hc => ?_) (fun hc => ?_) <;> (try simp at hc) <;> (try omega))
          | (refine ib (fun hc => ?_) (fun hc => ?_) <;> (try omega) <;> (try simp (disch := omega) only [if_pos, if_neg])))
          all_goals first | exact AW.le.refl _ | simp [ABlock, AThen, APost, ares, aresL, ares1]
        | true =>
          repeat' (first
          | (refine lwc fun R hR => ?_; simp [wrap_i64, wrap_u64, AW.row_get, insCells, h1, hkk, evF_glob, hget, hcell, hlen, hz, hz2, hk, ya0, ya2, yb0, yb2, yc0, yc2]; try simp (disch := omega) only [if_pos, if_neg, wrap_i64, wrap_u64])
          | (refine hR _ _ ?_; clear hR R) | (refine hK _ _ ?_; clear hK K) | refine lwn ?_ | refine lr ?_ | refine la ?_
          | refine wn fun K hK => ?_
          | simp only [wS, oFbJ_0]
          | refine wl Tryz.mx oFbJ_0 (by decide +kernel) fun K hK => ?_
          | (refine callK (c1 _) ?_; rintro _ _ ⟨rfl, rfl⟩ _ _)
          | (refine callK (c2 _) ?_; rintro _ _ ⟨rfl, rfl⟩ _ _)
          | (refine callK (c3 _) ?_; rintro _ _ ⟨rfl, rfl⟩ _ _)
          | (refine callK (cN _) ?_; rintro _ _ ⟨rfl, rfl⟩ _ _)
          | refine wb ?_ | refine wr ?_ | refine wk ?_ | refine we ?_ | refine ws ?_ | refine wq ?_
          | (refine wc rfl (fun hc => ?_) (fun hc => ?_) <;> (try simp at hc) <;> (try omega))
          | (refine ib (fun hc => ?_) (fun hc => ?_) <;> (try omega) <;> (try simp (disch := omega) only [if_pos, if_neg])))
          all_goals first | exact AW.le.refl _ | simp [ABlock, AThen, APost, ares, aresL, ares1]
end Go.Stx
