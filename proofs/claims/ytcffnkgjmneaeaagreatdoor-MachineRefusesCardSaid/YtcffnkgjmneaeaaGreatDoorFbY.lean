/-
  The two slices that make.Program builds.
-/
import Derived.Test.YtcffnkgjmneaeaaGreatDoorFbX
namespace Go.Stx
open Go Go.Proofs
attribute [local irreducible] AWP LWalk ACall ARounds lops nops
set_option linter.unusedVariables false
set_option linter.unusedSimpArgs false
set_option linter.unusedSectionVars false
set_option maxRecDepth 20000
variable [Gl]

structure PJ (A0 A : AW) (vp vj : Value) (ps : List InsV) (jl : List Int) (N : Nat) : Prop where
  own : OwnSl A0.next A 5 vp ps.length (ps.flatMap insCells)
  nums : OwnInts A0.next A .i64 vj jl
  range : ∀ x ∈ jl, 0 ≤ x ∧ x < (N : Int)
  disj : ∀ j, slBlock vp = some j → slBlock vj ≠ some j
  le : A0.le A
  wf : A.Wf

theorem PJ.grow {A0 A B : AW} {vp vj : Value} {ps : List InsV} {jl : List Int} {N : Nat} (h : PJ A0 A vp vj ps jl N) (hl : A.le B) (hw : B.Wf) : PJ A0 B vp vj ps jl N :=
  ⟨h.own.le hl h.wf, OwnSl.le hl h.wf h.nums, h.range, h.disj, h.le.trans hl, hw⟩
theorem PJ.ne {A0 A : AW} {vp vj : Value} {ps : List InsV} {jl : List Int} {N : Nat} (h : PJ A0 A vp vj ps jl N) {b : Nat} (hb : A.next ≤ b) : slBlock vp ≠ some b ∧ slBlock vj ≠ some b := by
  refine ⟨fun e => ?_, fun e => ?_⟩
  · have := h.own.lt h.wf e; omega
  · have := OwnSl.lt h.nums h.wf e; omega

theorem PJ.jump {A0 A : AW} {vp vj : Value} {ps : List InsV} {jl : List Int} (h : PJ A0 A vp vj ps jl ps.length) (hj : jl.length < 2 ^ 30) {b : Nat} {o : AObj} (hb : A.get b = some o) (hne : slBlock vp ≠ some b ∧ slBlock vj ≠ some b) :
    ∃ vj' A', aappend Tryz.prog (A.alloc (.cells [.int .i64 ps.length] true 1)) 40 40 vj (.slice (some ⟨A.next, 0, none⟩) 1 1) = some (vj', A') ∧ PJ A0 A' vp vj' ps (jl ++ [(ps.length : Int)]) (ps.length + 1) ∧ A'.get b = some o ∧ slBlock vp ≠ some b := by
  have hbn := h.wf.lt hb
  obtain ⟨vj', A', e, h2, k⟩ := app_num (ps.length : Int) h.nums hj h.le.next h.wf
  refine ⟨vj', A', e, ⟨h.own.other fun j hj => k.get j (h.own.lt h.wf hj).2 (h.disj j hj), h2, fun x hx => ?_, fun j hj hj' => ?_, k.le A0 (Nat.le_refl _) h.le, k.wf⟩, ?_, hne.1⟩
  · rcases List.mem_append.1 hx with hx | hx
    · have := h.range x hx; omega
    · simp at hx; omega
  · rcases k.new j hj' with e2 | e2
    · exact h.disj j hj e2
    · have := (h.own.lt h.wf hj).2; omega
  · rw [k.get b hbn hne.2, hb]

theorem PJ.ins {A0 A : AW} {vp vj : Value} {ps : List InsV} {jl : List Int} {N : Nat} (h : PJ A0 A vp vj ps jl N) (hn : ps.length < 2 ^ 30) (x : InsV) :
    ∃ vp' A', aappend Tryz.prog (A.alloc (.cells (insCells x) true 5)) 25 25 vp (.slice (some ⟨A.next, 0, none⟩) 1 1) = some (vp', A') ∧ PJ A0 A' vp' vj (ps ++ [x]) jl N := by
  obtain ⟨vp', A', e, h2, k⟩ := app_ins x h.own hn h.le.next h.wf
  refine ⟨vp', A', e, ⟨?_, OwnSl.other h.nums fun j hj => k.get j (OwnSl.lt h.nums h.wf hj).2 fun e2 => h.disj j e2 hj, h.range, fun j hj hj' => ?_, k.le A0 (Nat.le_refl _) h.le, k.wf⟩⟩
  · simpa [List.flatMap_append] using h2
  · rcases k.new j hj with e2 | e2
    · exact h.disj j e2 hj'
    · have := (OwnSl.lt h.nums h.wf hj').2; omega
theorem PJ.mono {A0 A : AW} {vp vj : Value} {ps : List InsV} {jl : List Int} {N M : Nat} (h : PJ A0 A vp vj ps jl N) (hm : N ≤ M) : PJ A0 A vp vj ps jl M :=
  ⟨h.own, h.nums, fun x hx => by have := h.range x hx; omega, h.disj, h.le, h.wf⟩

theorem PJ.setImm {A0 A : AW} {p : Addr} {n c : Nat} {vj : Value} {ps : List InsV} {jl : List Int} {N : Nat} (y : Int) (h : PJ A0 A (.slice (some p) n c) vj ps jl N) (hn : n = ps.length) {j : Nat} (hj : j < ps.length) :
    ∃ A', astore Tryz.prog A 3 ⟨p.block, p.off + j * 5 + 4, none⟩ (.int .i64 y) = some A' ∧ PJ A0 A' (.slice (some p) n c) vj (ps.set j { ps[j] with imm := y }) jl N := by
  subst hn
  obtain ⟨A', e, h2, hw, hn, hg, _⟩ := store_imm y h.own hj h.wf
  have hb := (h.own.lt h.wf (j := p.block) rfl).1
  refine ⟨A', e, ⟨?_, OwnSl.other h.nums fun i hi => hg i fun e2 => h.disj p.block rfl (by rw [← e2]; exact hi), h.range, h.disj, ⟨by rw [hn]; exact h.le.next, fun i hi => ?_⟩, hw⟩⟩
  · rw [List.length_set]; exact h2
  · rw [hg i (by omega)]; exact h.le.get i hi

/-- A halt of the walk. -/
structure Halt (p : Prop) : Prop where
  get : p
theorem halt2 {P : Program} {n : Nat} {Q : Exit → Fr → AW → Prop} {a : Fr} {A : AW} {c : Code} (h : Halt (AWP P n (.block 2 c) Q a A)) : AWP P n (.block 2 c) Q a A := h.get
theorem haltc {P : Program} {n : Nat} {Q : Exit → Fr → AW → Prop} {a : Fr} {A : AW} {c d : Code} (h : Halt (AWP P n (.cond (.tmp 158) c d) Q a A)) : AWP P n (.cond (.tmp 158) c d) Q a A := h.get
theorem awp_join {P : Program} {n : Nat} {Q : Exit → Fr → AW → Prop} {a : Fr} {A : AW} {x : Code} {K : Fr → AW → Prop} (J : Fr → AW → Prop) (h1 : AWP P n x (AThen J Q) a A) (h2 : ∀ a A, J a A → K a A) : AWP P n x (AThen K Q) a A :=
  awp_mono h1 fun e a A h => by cases e <;> first | exact h2 a A h | exact h

theorem awp_joinB {P : Program} {n : Nat} {id : Nat} {Q : Exit → Fr → AW → Prop} {a : Fr} {A : AW} {x : Code} {K : Fr → AW → Prop} (J : Fr → AW → Prop) (h1 : AWP P n x (ABlock id (AThen J Q)) a A) (h2 : ∀ a A, J a A → K a A) : AWP P n x (ABlock id (AThen K Q)) a A :=
  awp_mono h1 fun e a A h => by
    cases e with
    | normal => exact h2 a A h
    | exit k =>
      simp only [ABlock] at h ⊢
      split at h
      · rename_i e; rw [if_pos e]; exact h2 a A h
      · rename_i e; rw [if_neg e]; exact h
    | _ => exact h
/-- What the first loop of make.Program keeps. -/
def PgJ (A0 : AW) (ol : Option Addr) (cl : Nat) (l : List Int) (most : Int) (heap plain : Bool) (i : Nat) (vp vj : Value) (b : Bool) (fr : Fr) : Prop :=
  fr 0 = .slice ol l.length cl ∧ fr 1 = .int .i64 most ∧ fr 2 = .bool heap ∧ fr 3 = .bool plain ∧ fr 9 = vp ∧ fr 10 = .bool b ∧ fr 11 = vj ∧ fr 12 = .int .i64 i

set_option maxHeartbeats 16000000 in
theorem program_call (hn : Gl.N = 4) (vl : Value) (l : List Int) (most : Int) (heap plain : Bool) (A : AW) (h : IsInts A .i64 vl l) (hm : 0 ≤ most ∧ most ≤ 1000) :
    ACall Tryz.prog 54 [vl, .int .i64 most, .bool heap, .bool plain] A (fun u A' => ∃ p : List InsV, p.length ≤ 1001 ∧ OwnSl A.next A' 5 u p.length (p.flatMap insCells) ∧ A.le A' ∧ A'.Wf) := by
  refine acall_intro Tryz.func54 rfl (by kernel_rfl) fun hw => ?_
  obtain ⟨ol, cl, rfl, _⟩ := h.form
  have hws : IntKind.i64.wrap (most - 1) = most - 1 := wrap_i64 (by omega) (by omega)
  repeat' (first
  | (refine lwc fun R hR => ?_; simp [wrap_i64, wrap_u64]; try simp (disch := omega) only [if_pos, if_neg, wrap_i64, wrap_u64])
  | (refine hR _ _ ?_; clear hR R) | (refine hK _ _ ?_; clear hK K) | refine lwn ?_ | refine lr ?_ | refine la ?_
  | refine wn fun K hK => ?_
  | simp only [wS]
  | refine wb ?_ | refine wr ?_ | refine wk ?_ | refine we ?_ | refine ws ?_ | refine wq ?_
  | (refine wc rfl (fun hc => ?_) (fun hc => ?_) <;> (try simp at hc) <;> (try omega))
  | (refine ib (fun hc => ?_) (fun hc => ?_) <;> (try omega) <;> (try simp (disch := omega) only [if_pos, if_neg])))
  refine awp_joinB (fun fr A' => ∃ (ps : List InsV) (jl : List Int) (vp vj : Value) (b : Bool), ps.length ≤ 1000 ∧ jl.length ≤ 1000 ∧ fr 9 = vp ∧ fr 10 = .bool b ∧ fr 11 = vj ∧ PJ A A' vp vj ps jl ps.length) ?_ ?_
  rotate_left
  · rintro fr A' ⟨ps, jl, vp, vj, b, hps, hjl, g9, g10, g11, hJ⟩
    repeat' (first
    | (refine lwc fun R hR => ?_; simp [wrap_i64, wrap_u64, g9, g10, g11]; try simp (disch := omega) only [if_pos, if_neg, wrap_i64, wrap_u64])
    | (refine hR _ _ ?_; clear hR R) | (refine hK _ _ ?_; clear hK K) | refine lwn ?_ | refine lr ?_ | refine la ?_
    | refine wn fun K hK => ?_
    | simp only [wS]
    | (refine haltc ?_)
    | refine wb ?_ | refine wr ?_ | refine wk ?_ | refine we ?_ | refine ws ?_ | refine wq ?_
    | (refine wc rfl (fun hc => ?_) (fun hc => ?_) <;> (try simp at hc) <;> (try omega))
    | (refine ib (fun hc => ?_) (fun hc => ?_) <;> (try omega) <;> (try simp (disch := omega) only [if_pos, if_neg])))
    refine ⟨?_⟩
    refine awp_join (fun fr A' => ∃ (ps : List InsV) (vp : Value), ps.length ≤ 1001 ∧ fr 9 = vp ∧ fr 11 = vj ∧ PJ A A' vp vj ps jl ps.length) ?_ ?_
    · cases b with
      | false =>
        repeat' (first
        | (refine lwc fun R hR => ?_; simp [wrap_i64, wrap_u64, g9, g10, g11]; try simp (disch := omega) only [if_pos, if_neg, wrap_i64, wrap_u64])
        | (refine hR _ _ ?_; clear hR R) | (refine hK _ _ ?_; clear hK K) | refine lwn ?_ | refine lr ?_ | refine la ?_
        | refine wn fun K hK => ?_
        | simp only [wS]
        | refine wb ?_ | refine wr ?_ | refine wk ?_ | refine we ?_ | refine ws ?_ | refine wq ?_
        | (refine wc rfl (fun hc => ?_) (fun hc => ?_) <;> (try simp at hc) <;> (try omega))
        | (refine ib (fun hc => ?_) (fun hc => ?_) <;> (try omega) <;> (try simp (disch := omega) only [if_pos, if_neg])))
        exact ⟨ps, vp, by omega, by simp [g9], by simp [g11], hJ⟩
      | true =>
        obtain ⟨vp', A5, e5, hJ5⟩ := hJ.ins (by omega) ⟨8, 0, 0, 0, 0⟩
        simp only [insCells] at e5
        repeat' (first
        | (refine lwc fun R hR => ?_; simp [wrap_i64, wrap_u64, g9, g10, g11, e5]; try simp (disch := omega) only [if_pos, if_neg, wrap_i64, wrap_u64])
        | (refine hR _ _ ?_; clear hR R) | (refine hK _ _ ?_; clear hK K) | refine lwn ?_ | refine lr ?_ | refine la ?_
        | refine wn fun K hK => ?_
        | simp only [wS]
        | refine wb ?_ | refine wr ?_ | refine wk ?_ | refine we ?_ | refine ws ?_ | refine wq ?_
        | (refine wc rfl (fun hc => ?_) (fun hc => ?_) <;> (try simp at hc) <;> (try omega))
        | (refine ib (fun hc => ?_) (fun hc => ?_) <;> (try omega) <;> (try simp (disch := omega) only [if_pos, if_neg])))
        exact ⟨ps ++ [⟨8, 0, 0, 0, 0⟩], vp', by simp; omega, by simp, by simp [g11], hJ5.mono (by simp)⟩
    clear hJ g9 g10 g11
    rintro fr A' ⟨ps, vp, hps, g9, g11, hJ⟩
    obtain ⟨oj, cj, hvj, _⟩ := hJ.nums.is.form
    obtain ⟨op, cp, hvp, _⟩ := hJ.own.is.form
    subst hvp
    subst hvj
    generalize hnl : ps.length = nl at g9 hJ hps
    repeat' (first
    | (refine lwc fun R hR => ?_; simp [wrap_i64, wrap_u64, g9, g11]; try simp (disch := omega) only [if_pos, if_neg, wrap_i64, wrap_u64])
    | (refine hR _ _ ?_; clear hR R) | (refine hK _ _ ?_; clear hK K) | refine lwn ?_ | refine lr ?_ | refine la ?_
    | refine wn fun K hK => ?_
    | simp only [wS]
    | refine wb ?_ | refine wr ?_ | refine wk ?_ | refine we ?_ | refine ws ?_ | refine wq ?_
    | (refine wc rfl (fun hc => ?_) (fun hc => ?_) <;> (try simp at hc) <;> (try omega))
    | (refine ib (fun hc => ?_) (fun hc => ?_) <;> (try omega) <;> (try simp (disch := omega) only [if_pos, if_neg])))
    refine awp_loop (fun k fr A' => ∃ (i : Nat) (ps : List InsV), k = jl.length - i ∧ i ≤ jl.length ∧ ps.length = nl ∧ fr 9 = .slice op nl cp ∧ fr 11 = .slice oj jl.length cj ∧ fr 17 = .int .i64 i ∧ PJ A A' (.slice op nl cp) (.slice oj jl.length cj) ps jl nl) jl.length ?_ ?_
    · exact ⟨0, ps, rfl, Nat.zero_le _, hnl, by simp [g9], by simp [g11], by simp, hJ⟩
    · clear hnl hJ g9 g11
      rintro k fr A' ⟨i, ps, rfl, hi, hnl, g9, g11, g17, hJ⟩
      by_cases hlt : i < jl.length
      · obtain ⟨q, row, hq', hrow, hcell⟩ := hJ.nums.is.at hlt
        subst hq'
        obtain ⟨hr0, hr1⟩ := hJ.range jl[i] (List.getElem_mem hlt)
        obtain ⟨j, hj⟩ : ∃ j : Nat, jl[i] = (j : Int) := ⟨jl[i].toNat, by omega⟩
        rw [hj] at hcell hr1
        have hjn : j < nl := by omega
        have hwi : IntKind.i64.wrap ((i : Int) + 1) = ((i + 1 : Nat) : Int) := wrap_i64 (by omega) (by omega)
        have hpa : ∃ pa, op = some pa := by
          rcases hJ.own with ⟨e, e2, _⟩ | ⟨p, c, row, e, _⟩
          · omega
          · injection e with e _ _; exact ⟨p, e⟩
        obtain ⟨pa, rfl⟩ := hpa
        obtain ⟨A1, e1, hJ1⟩ := hJ.setImm 1 hnl.symm (show j < ps.length by omega)
        generalize hps1 : ps.set j { ps[j] with imm := 1 } = ps1 at hJ1
        have hnl1 : ps1.length = nl := by rw [← hps1, List.length_set, hnl]
        have cC := refCheck_call hn (.slice (some pa) nl cp) ps1 A1 (by have := hJ1.own.is; unfold IsIns; rw [hnl1] at this ⊢; exact this)
        unfold errV at cC
        obtain ⟨q2, row2, hq2, hrow2, hcell2⟩ := hJ1.nums.is.at hlt
        injection hq2 with hq2
        subst hq2
        rw [hj] at hcell2
        have hst : jl.length - i = (jl.length - (i + 1)) + 1 := by omega
        by_cases z : (refCheck ps1).2 = 0
        · refine awp_seq ?_
          repeat' (first
          | (refine lwc fun R hR => ?_; simp [wrap_i64, wrap_u64, g9, g11, g17, hlt, hwi, hrow, hcell, hjn, e1, z]; try simp (disch := omega) only [if_pos, if_neg, wrap_i64, wrap_u64])
          | (refine hR _ _ ?_; clear hR R) | (refine hK _ _ ?_; clear hK K) | refine lwn ?_ | refine lr ?_ | refine la ?_
          | refine wn fun K hK => ?_
          | simp only [wS]
          | (refine callK (cC) ?_; rintro _ _ ⟨rfl, rfl⟩ _ _)
          | refine wb ?_ | refine wr ?_ | refine wk ?_ | refine we ?_ | refine ws ?_ | refine wq ?_
          | (refine wc rfl (fun hc => ?_) (fun hc => ?_) <;> (try simp at hc) <;> (try omega))
          | (refine ib (fun hc => ?_) (fun hc => ?_) <;> (try omega) <;> (try simp (disch := omega) only [if_pos, if_neg])))
          exact ⟨jl.length - (i + 1), by omega, i + 1, ps1, rfl, by omega, hnl1, by simp [g9], by simp [g11], by simp, hJ1⟩
        · obtain ⟨A2, e2, hJ2⟩ := hJ1.setImm 0 hnl1.symm (show j < ps1.length by omega)
          refine awp_seq ?_
          repeat' (first
          | (refine lwc fun R hR => ?_; simp [wrap_i64, wrap_u64, g9, g11, g17, hlt, hwi, hrow, hcell, hrow2, hcell2, hjn, e1, e2, z]; try simp (disch := omega) only [if_pos, if_neg, wrap_i64, wrap_u64])
          | (refine hR _ _ ?_; clear hR R) | (refine hK _ _ ?_; clear hK K) | refine lwn ?_ | refine lr ?_ | refine la ?_
          | refine wn fun K hK => ?_
          | simp only [wS]
          | (refine callK (cC) ?_; rintro _ _ ⟨rfl, rfl⟩ _ _)
          | refine wb ?_ | refine wr ?_ | refine wk ?_ | refine we ?_ | refine ws ?_ | refine wq ?_
          | (refine wc rfl (fun hc => ?_) (fun hc => ?_) <;> (try simp at hc) <;> (try omega))
          | (refine ib (fun hc => ?_) (fun hc => ?_) <;> (try omega) <;> (try simp (disch := omega) only [if_pos, if_neg])))
          exact ⟨jl.length - (i + 1), by omega, i + 1, _, rfl, by omega, by rw [List.length_set, hnl1], by simp [g9], by simp [g11], by simp, hJ2⟩
      · refine awp_seq ?_
        repeat' (first
        | (refine lwc fun R hR => ?_; simp [wrap_i64, wrap_u64, g9, g11, g17, hlt]; try simp (disch := omega) only [if_pos, if_neg, wrap_i64, wrap_u64])
        | (refine hR _ _ ?_; clear hR R) | (refine hK _ _ ?_; clear hK K) | refine lwn ?_ | refine lr ?_ | refine la ?_
        | refine wn fun K hK => ?_
        | simp only [wS]
        | refine wb ?_ | refine wr ?_ | refine wk ?_ | refine we ?_ | refine ws ?_ | refine wq ?_
        | (refine wc rfl (fun hc => ?_) (fun hc => ?_) <;> (try simp at hc) <;> (try omega))
        | (refine ib (fun hc => ?_) (fun hc => ?_) <;> (try omega) <;> (try simp (disch := omega) only [if_pos, if_neg])))
        refine ⟨_, rfl, ps, by omega, ?_, hJ.le, hJ.wf⟩
        have := hJ.own
        rw [hnl] at this ⊢
        exact this
  refine awp_loop (fun k fr A' => ∃ (i : Nat) (ps : List InsV) (jl : List Int) (vp vj : Value) (b : Bool), k = l.length - i ∧ i ≤ l.length ∧ i ≤ 1000 ∧ ps.length = i ∧ jl.length ≤ i ∧ PgJ A ol cl l most heap plain i vp vj b fr ∧ PJ A A' vp vj ps jl ps.length) l.length ?_ ?_
  · exact ⟨0, [], [], _, _, false, rfl, Nat.zero_le _, Nat.zero_le _, rfl, Nat.zero_le _, ⟨rfl, rfl, rfl, rfl, rfl, rfl, rfl, rfl⟩, ⟨OwnSl.nil _ _ _, OwnInts.nil _ _ _, by simp, by simp [slBlock], AW.le.refl A, hw⟩⟩
  · rintro k fr A' ⟨i, ps, jl, vp, vj, b, rfl, hi, hi9, hps, hjl, ⟨g0, g1, g2, g3, g9, g10, g11, g12⟩, hJ⟩
    obtain ⟨op, cp, hvp, hcp⟩ := hJ.own.is.form
    have hvp0 := hvp
    by_cases hlt : i < l.length
    · by_cases hlt2 : (ps.length : Int) < most - 1
      · obtain ⟨q, row, hq', hrow, hcell⟩ := (h.le hJ.le hw).at hlt
        subst hq'
        obtain ⟨nn, hnn⟩ : ∃ nn : Nat, IntKind.u64.wrap l[i] = (nn : Int) := ⟨(IntKind.u64.wrap l[i]).toNat, by
          simp only [IntKind.wrap, IntKind.bits, IntKind.signed, Bool.false_and, Bool.false_eq_true, if_false]; omega⟩
        have hnn2 : (nn : Int) < 18446744073709551616 := by
          rw [← hnn]
          simp only [IntKind.wrap, IntKind.bits, IntKind.signed, Bool.false_and, Bool.false_eq_true, if_false]; omega
        obtain ⟨kd, hkd⟩ : ∃ kd, IntKind.i64.wrap ((nn : Int).tmod 16) = kd := ⟨_, rfl⟩
        have hkd0 : 0 ≤ kd ∧ kd < 16 := by
          rw [← hkd, Int.tmod_eq_emod_of_nonneg (by omega), wrap_i64 (by omega) (by omega)]; omega
        obtain ⟨n1, hn1⟩ : ∃ n1 : Nat, (nn : Int) / 16 = (n1 : Int) := ⟨nn / 16, by omega⟩
        have hn12 : (n1 : Int) < 18446744073709551616 := by omega
        have hwi : IntKind.i64.wrap ((i : Int) + 1) = ((i + 1 : Nat) : Int) := wrap_i64 (by omega) (by omega)
        have hst : l.length - i = (l.length - (i + 1)) + 1 := by omega
        refine awp_seq ?_
        repeat' (first
        | (refine lwc fun R hR => ?_; simp [wrap_i64, wrap_u64, g0, g1, g2, g3, g9, g10, g11, g12, hvp, hlt, hlt2, hws, hrow, hcell, hnn, hkd, hn1]; try simp (disch := omega) only [if_pos, if_neg, wrap_i64, wrap_u64])
        | (refine hR _ _ ?_; clear hR R) | (refine hK _ _ ?_; clear hK K) | refine lwn ?_ | refine lr ?_ | refine la ?_
        | refine wn fun K hK => ?_
        | simp only [wS]
        | (refine halt2 ?_)
        | refine wb ?_ | refine wr ?_ | refine wk ?_ | refine we ?_ | refine ws ?_ | refine wq ?_
        | (refine wc rfl (fun hc => ?_) (fun hc => ?_) <;> (try simp at hc) <;> (try omega))
        | (refine ib (fun hc => ?_) (fun hc => ?_) <;> (try omega) <;> (try simp (disch := omega) only [if_pos, if_neg])))
        refine ⟨?_⟩
        refine awp_join (fun fr2 A2 => ∃ (o : Int) (n2 : Nat), (n2 : Int) < 18446744073709551616 ∧ fr2 15 = .int .i64 o ∧ fr2 13 = .int .u64 n2 ∧ PgJ A (some q) cl l most heap plain i vp vj b fr2 ∧ A'.le A2 ∧ A2.Wf) ?_ ?_
        · have hm3 : (n1 : Int).tmod 3 = ((n1 % 3 : Nat) : Int) := by rw [Int.tmod_eq_emod_of_nonneg (by omega)]; omega
          have hm5 : (n1 : Int).tmod 5 = ((n1 % 5 : Nat) : Int) := by rw [Int.tmod_eq_emod_of_nonneg (by omega)]; omega
          obtain ⟨n3, hd3⟩ : ∃ n3 : Nat, (n1 : Int) / 3 = (n3 : Int) := ⟨n1 / 3, by omega⟩
          obtain ⟨n5, hd5⟩ : ∃ n5 : Nat, (n1 : Int) / 5 = (n5 : Int) := ⟨n1 / 5, by omega⟩
          have hr3 : n1 % 3 = 0 ∨ n1 % 3 = 1 ∨ n1 % 3 = 2 := by omega
          have hr5 : n1 % 5 = 0 ∨ n1 % 5 = 1 ∨ n1 % 5 = 2 ∨ n1 % 5 = 3 ∨ n1 % 5 = 4 := by omega
          have hv3 : (n3 : Int) < 18446744073709551616 := by omega
          have hv5 : (n5 : Int) < 18446744073709551616 := by omega
          by_cases k1 : kd < 2
          · rcases hr3 with hr | hr | hr <;> rw [hr] at hm3
            · skip
              repeat' (first
              | (refine lwc fun R hR => ?_; simp [wrap_i64, wrap_u64, g0, g1, g2, g3, g9, g10, g11, g12, hvp, hkd, k1, hm3, hd3, AW.row_get]; try simp (disch := omega) only [if_pos, if_neg, wrap_i64, wrap_u64])
              | (refine hR _ _ ?_; clear hR R) | (refine hK _ _ ?_; clear hK K) | refine lwn ?_ | refine lr ?_ | refine la ?_
              | refine wn fun K hK => ?_
              | simp only [wS]
              | refine wb ?_ | refine wr ?_ | refine wk ?_ | refine we ?_ | refine ws ?_ | refine wq ?_
              | (refine wc rfl (fun hc => ?_) (fun hc => ?_) <;> (try simp at hc) <;> (try omega))
              | (refine ib (fun hc => ?_) (fun hc => ?_) <;> (try omega) <;> (try simp (disch := omega) only [if_pos, if_neg])))
              all_goals (refine ⟨_, _, ?_, rfl, rfl, ⟨by simp [g0], by simp [g1], by simp [g2], by simp [g3], by simp [g9], by simp [g10], by simp [g11], by simp [g12]⟩, ?_, ?_⟩ <;> first | exact AW.le.refl _ | exact AW.le.alloc _ _ | exact hJ.wf | exact hJ.wf.alloc _ | omega)
            · skip
              repeat' (first
              | (refine lwc fun R hR => ?_; simp [wrap_i64, wrap_u64, g0, g1, g2, g3, g9, g10, g11, g12, hvp, hkd, k1, hm3, hd3, AW.row_get]; try simp (disch := omega) only [if_pos, if_neg, wrap_i64, wrap_u64])
              | (refine hR _ _ ?_; clear hR R) | (refine hK _ _ ?_; clear hK K) | refine lwn ?_ | refine lr ?_ | refine la ?_
              | refine wn fun K hK => ?_
              | simp only [wS]
              | refine wb ?_ | refine wr ?_ | refine wk ?_ | refine we ?_ | refine ws ?_ | refine wq ?_
              | (refine wc rfl (fun hc => ?_) (fun hc => ?_) <;> (try simp at hc) <;> (try omega))
              | (refine ib (fun hc => ?_) (fun hc => ?_) <;> (try omega) <;> (try simp (disch := omega) only [if_pos, if_neg])))
              all_goals (refine ⟨_, _, ?_, rfl, rfl, ⟨by simp [g0], by simp [g1], by simp [g2], by simp [g3], by simp [g9], by simp [g10], by simp [g11], by simp [g12]⟩, ?_, ?_⟩ <;> first | exact AW.le.refl _ | exact AW.le.alloc _ _ | exact hJ.wf | exact hJ.wf.alloc _ | omega)
            · skip
              repeat' (first
              | (refine lwc fun R hR => ?_; simp [wrap_i64, wrap_u64, g0, g1, g2, g3, g9, g10, g11, g12, hvp, hkd, k1, hm3, hd3, AW.row_get]; try simp (disch := omega) only [if_pos, if_neg, wrap_i64, wrap_u64])
              | (refine hR _ _ ?_; clear hR R) | (refine hK _ _ ?_; clear hK K) | refine lwn ?_ | refine lr ?_ | refine la ?_
              | refine wn fun K hK => ?_
              | simp only [wS]
              | refine wb ?_ | refine wr ?_ | refine wk ?_ | refine we ?_ | refine ws ?_ | refine wq ?_
              | (refine wc rfl (fun hc => ?_) (fun hc => ?_) <;> (try simp at hc) <;> (try omega))
              | (refine ib (fun hc => ?_) (fun hc => ?_) <;> (try omega) <;> (try simp (disch := omega) only [if_pos, if_neg])))
              all_goals (refine ⟨_, _, ?_, rfl, rfl, ⟨by simp [g0], by simp [g1], by simp [g2], by simp [g3], by simp [g9], by simp [g10], by simp [g11], by simp [g12]⟩, ?_, ?_⟩ <;> first | exact AW.le.refl _ | exact AW.le.alloc _ _ | exact hJ.wf | exact hJ.wf.alloc _ | omega)
          by_cases k2 : kd = 2 ∧ 0 < ps.length
          · obtain ⟨k2, k3⟩ := k2
            subst k2
            rcases hr3 with hr | hr | hr <;> rw [hr] at hm3
            · skip
              repeat' (first
              | (refine lwc fun R hR => ?_; simp [wrap_i64, wrap_u64, g0, g1, g2, g3, g9, g10, g11, g12, hvp, hkd, k3, hm3, hd3, AW.row_get]; try simp (disch := omega) only [if_pos, if_neg, wrap_i64, wrap_u64])
              | (refine hR _ _ ?_; clear hR R) | (refine hK _ _ ?_; clear hK K) | refine lwn ?_ | refine lr ?_ | refine la ?_
              | refine wn fun K hK => ?_
              | simp only [wS]
              | refine wb ?_ | refine wr ?_ | refine wk ?_ | refine we ?_ | refine ws ?_ | refine wq ?_
              | (refine wc rfl (fun hc => ?_) (fun hc => ?_) <;> (try simp at hc) <;> (try omega))
              | (refine ib (fun hc => ?_) (fun hc => ?_) <;> (try omega) <;> (try simp (disch := omega) only [if_pos, if_neg])))
              all_goals (refine ⟨_, _, ?_, rfl, rfl, ⟨by simp [g0], by simp [g1], by simp [g2], by simp [g3], by simp [g9], by simp [g10], by simp [g11], by simp [g12]⟩, ?_, ?_⟩ <;> first | exact AW.le.refl _ | exact AW.le.alloc _ _ | exact hJ.wf | exact hJ.wf.alloc _ | omega)
            · skip
              repeat' (first
              | (refine lwc fun R hR => ?_; simp [wrap_i64, wrap_u64, g0, g1, g2, g3, g9, g10, g11, g12, hvp, hkd, k3, hm3, hd3, AW.row_get]; try simp (disch := omega) only [if_pos, if_neg, wrap_i64, wrap_u64])
              | (refine hR _ _ ?_; clear hR R) | (refine hK _ _ ?_; clear hK K) | refine lwn ?_ | refine lr ?_ | refine la ?_
              | refine wn fun K hK => ?_
              | simp only [wS]
              | refine wb ?_ | refine wr ?_ | refine wk ?_ | refine we ?_ | refine ws ?_ | refine wq ?_
              | (refine wc rfl (fun hc => ?_) (fun hc => ?_) <;> (try simp at hc) <;> (try omega))
              | (refine ib (fun hc => ?_) (fun hc => ?_) <;> (try omega) <;> (try simp (disch := omega) only [if_pos, if_neg])))
              all_goals (refine ⟨_, _, ?_, rfl, rfl, ⟨by simp [g0], by simp [g1], by simp [g2], by simp [g3], by simp [g9], by simp [g10], by simp [g11], by simp [g12]⟩, ?_, ?_⟩ <;> first | exact AW.le.refl _ | exact AW.le.alloc _ _ | exact hJ.wf | exact hJ.wf.alloc _ | omega)
            · skip
              repeat' (first
              | (refine lwc fun R hR => ?_; simp [wrap_i64, wrap_u64, g0, g1, g2, g3, g9, g10, g11, g12, hvp, hkd, k3, hm3, hd3, AW.row_get]; try simp (disch := omega) only [if_pos, if_neg, wrap_i64, wrap_u64])
              | (refine hR _ _ ?_; clear hR R) | (refine hK _ _ ?_; clear hK K) | refine lwn ?_ | refine lr ?_ | refine la ?_
              | refine wn fun K hK => ?_
              | simp only [wS]
              | refine wb ?_ | refine wr ?_ | refine wk ?_ | refine we ?_ | refine ws ?_ | refine wq ?_
              | (refine wc rfl (fun hc => ?_) (fun hc => ?_) <;> (try simp at hc) <;> (try omega))
              | (refine ib (fun hc => ?_) (fun hc => ?_) <;> (try omega) <;> (try simp (disch := omega) only [if_pos, if_neg])))
              all_goals (refine ⟨_, _, ?_, rfl, rfl, ⟨by simp [g0], by simp [g1], by simp [g2], by simp [g3], by simp [g9], by simp [g10], by simp [g11], by simp [g12]⟩, ?_, ?_⟩ <;> first | exact AW.le.refl _ | exact AW.le.alloc _ _ | exact hJ.wf | exact hJ.wf.alloc _ | omega)
          have k3 : kd = 2 → ¬ 0 < ps.length := fun h1 h2 => k2 ⟨h1, h2⟩
          clear k2
          cases b with
          | false =>
            cases plain with
            | true =>
              by_cases k4 : kd < 7
              · rcases hr5 with hr | hr | hr | hr | hr <;> rw [hr] at hm5
                · by_cases k5 : kd = 2
                  · have k6 := k3 k5
                    subst k5
                    repeat' (first
                    | (refine lwc fun R hR => ?_; simp [wrap_i64, wrap_u64, g0, g1, g2, g3, g9, g10, g11, g12, hvp, hkd, k6, hm5, hd5, AW.row_get]; try simp (disch := omega) only [if_pos, if_neg, wrap_i64, wrap_u64])
                    | (refine hR _ _ ?_; clear hR R) | (refine hK _ _ ?_; clear hK K) | refine lwn ?_ | refine lr ?_ | refine la ?_
                    | refine wn fun K hK => ?_
                    | simp only [wS]
                    | refine wb ?_ | refine wr ?_ | refine wk ?_ | refine we ?_ | refine ws ?_ | refine wq ?_
                    | (refine wc rfl (fun hc => ?_) (fun hc => ?_) <;> (try simp at hc) <;> (try omega))
                    | (refine ib (fun hc => ?_) (fun hc => ?_) <;> (try omega) <;> (try simp (disch := omega) only [if_pos, if_neg])))
                    all_goals (refine ⟨_, _, ?_, rfl, rfl, ⟨by simp [g0], by simp [g1], by simp [g2], by simp [g3], by simp [g9], by simp [g10], by simp [g11], by simp [g12]⟩, ?_, ?_⟩ <;> first | exact AW.le.refl _ | exact AW.le.alloc _ _ | exact hJ.wf | exact hJ.wf.alloc _ | omega)
                  · skip
                    repeat' (first
                    | (refine lwc fun R hR => ?_; simp [wrap_i64, wrap_u64, g0, g1, g2, g3, g9, g10, g11, g12, hvp, hkd, k1, k4, k5, hm5, hd5, AW.row_get]; try simp (disch := omega) only [if_pos, if_neg, wrap_i64, wrap_u64])
                    | (refine hR _ _ ?_; clear hR R) | (refine hK _ _ ?_; clear hK K) | refine lwn ?_ | refine lr ?_ | refine la ?_
                    | refine wn fun K hK => ?_
                    | simp only [wS]
                    | refine wb ?_ | refine wr ?_ | refine wk ?_ | refine we ?_ | refine ws ?_ | refine wq ?_
                    | (refine wc rfl (fun hc => ?_) (fun hc => ?_) <;> (try simp at hc) <;> (try omega))
                    | (refine ib (fun hc => ?_) (fun hc => ?_) <;> (try omega) <;> (try simp (disch := omega) only [if_pos, if_neg])))
                    all_goals (refine ⟨_, _, ?_, rfl, rfl, ⟨by simp [g0], by simp [g1], by simp [g2], by simp [g3], by simp [g9], by simp [g10], by simp [g11], by simp [g12]⟩, ?_, ?_⟩ <;> first | exact AW.le.refl _ | exact AW.le.alloc _ _ | exact hJ.wf | exact hJ.wf.alloc _ | omega)
                · by_cases k5 : kd = 2
                  · have k6 := k3 k5
                    subst k5
                    repeat' (first
                    | (refine lwc fun R hR => ?_; simp [wrap_i64, wrap_u64, g0, g1, g2, g3, g9, g10, g11, g12, hvp, hkd, k6, hm5, hd5, AW.row_get]; try simp (disch := omega) only [if_pos, if_neg, wrap_i64, wrap_u64])
                    | (refine hR _ _ ?_; clear hR R) | (refine hK _ _ ?_; clear hK K) | refine lwn ?_ | refine lr ?_ | refine la ?_
                    | refine wn fun K hK => ?_
                    | simp only [wS]
                    | refine wb ?_ | refine wr ?_ | refine wk ?_ | refine we ?_ | refine ws ?_ | refine wq ?_
                    | (refine wc rfl (fun hc => ?_) (fun hc => ?_) <;> (try simp at hc) <;> (try omega))
                    | (refine ib (fun hc => ?_) (fun hc => ?_) <;> (try omega) <;> (try simp (disch := omega) only [if_pos, if_neg])))
                    all_goals (refine ⟨_, _, ?_, rfl, rfl, ⟨by simp [g0], by simp [g1], by simp [g2], by simp [g3], by simp [g9], by simp [g10], by simp [g11], by simp [g12]⟩, ?_, ?_⟩ <;> first | exact AW.le.refl _ | exact AW.le.alloc _ _ | exact hJ.wf | exact hJ.wf.alloc _ | omega)
                  · skip
                    repeat' (first
                    | (refine lwc fun R hR => ?_; simp [wrap_i64, wrap_u64, g0, g1, g2, g3, g9, g10, g11, g12, hvp, hkd, k1, k4, k5, hm5, hd5, AW.row_get]; try simp (disch := omega) only [if_pos, if_neg, wrap_i64, wrap_u64])
                    | (refine hR _ _ ?_; clear hR R) | (refine hK _ _ ?_; clear hK K) | refine lwn ?_ | refine lr ?_ | refine la ?_
                    | refine wn fun K hK => ?_
                    | simp only [wS]
                    | refine wb ?_ | refine wr ?_ | refine wk ?_ | refine we ?_ | refine ws ?_ | refine wq ?_
                    | (refine wc rfl (fun hc => ?_) (fun hc => ?_) <;> (try simp at hc) <;> (try omega))
                    | (refine ib (fun hc => ?_) (fun hc => ?_) <;> (try omega) <;> (try simp (disch := omega) only [if_pos, if_neg])))
                    all_goals (refine ⟨_, _, ?_, rfl, rfl, ⟨by simp [g0], by simp [g1], by simp [g2], by simp [g3], by simp [g9], by simp [g10], by simp [g11], by simp [g12]⟩, ?_, ?_⟩ <;> first | exact AW.le.refl _ | exact AW.le.alloc _ _ | exact hJ.wf | exact hJ.wf.alloc _ | omega)
                · by_cases k5 : kd = 2
                  · have k6 := k3 k5
                    subst k5
                    repeat' (first
                    | (refine lwc fun R hR => ?_; simp [wrap_i64, wrap_u64, g0, g1, g2, g3, g9, g10, g11, g12, hvp, hkd, k6, hm5, hd5, AW.row_get]; try simp (disch := omega) only [if_pos, if_neg, wrap_i64, wrap_u64])
                    | (refine hR _ _ ?_; clear hR R) | (refine hK _ _ ?_; clear hK K) | refine lwn ?_ | refine lr ?_ | refine la ?_
                    | refine wn fun K hK => ?_
                    | simp only [wS]
                    | refine wb ?_ | refine wr ?_ | refine wk ?_ | refine we ?_ | refine ws ?_ | refine wq ?_
                    | (refine wc rfl (fun hc => ?_) (fun hc => ?_) <;> (try simp at hc) <;> (try omega))
                    | (refine ib (fun hc => ?_) (fun hc => ?_) <;> (try omega) <;> (try simp (disch := omega) only [if_pos, if_neg])))
                    all_goals (refine ⟨_, _, ?_, rfl, rfl, ⟨by simp [g0], by simp [g1], by simp [g2], by simp [g3], by simp [g9], by simp [g10], by simp [g11], by simp [g12]⟩, ?_, ?_⟩ <;> first | exact AW.le.refl _ | exact AW.le.alloc _ _ | exact hJ.wf | exact hJ.wf.alloc _ | omega)
                  · skip
                    repeat' (first
                    | (refine lwc fun R hR => ?_; simp [wrap_i64, wrap_u64, g0, g1, g2, g3, g9, g10, g11, g12, hvp, hkd, k1, k4, k5, hm5, hd5, AW.row_get]; try simp (disch := omega) only [if_pos, if_neg, wrap_i64, wrap_u64])
                    | (refine hR _ _ ?_; clear hR R) | (refine hK _ _ ?_; clear hK K) | refine lwn ?_ | refine lr ?_ | refine la ?_
                    | refine wn fun K hK => ?_
                    | simp only [wS]
                    | refine wb ?_ | refine wr ?_ | refine wk ?_ | refine we ?_ | refine ws ?_ | refine wq ?_
                    | (refine wc rfl (fun hc => ?_) (fun hc => ?_) <;> (try simp at hc) <;> (try omega))
                    | (refine ib (fun hc => ?_) (fun hc => ?_) <;> (try omega) <;> (try simp (disch := omega) only [if_pos, if_neg])))
                    all_goals (refine ⟨_, _, ?_, rfl, rfl, ⟨by simp [g0], by simp [g1], by simp [g2], by simp [g3], by simp [g9], by simp [g10], by simp [g11], by simp [g12]⟩, ?_, ?_⟩ <;> first | exact AW.le.refl _ | exact AW.le.alloc _ _ | exact hJ.wf | exact hJ.wf.alloc _ | omega)
                · by_cases k5 : kd = 2
                  · have k6 := k3 k5
                    subst k5
                    repeat' (first
                    | (refine lwc fun R hR => ?_; simp [wrap_i64, wrap_u64, g0, g1, g2, g3, g9, g10, g11, g12, hvp, hkd, k6, hm5, hd5, AW.row_get]; try simp (disch := omega) only [if_pos, if_neg, wrap_i64, wrap_u64])
                    | (refine hR _ _ ?_; clear hR R) | (refine hK _ _ ?_; clear hK K) | refine lwn ?_ | refine lr ?_ | refine la ?_
                    | refine wn fun K hK => ?_
                    | simp only [wS]
                    | refine wb ?_ | refine wr ?_ | refine wk ?_ | refine we ?_ | refine ws ?_ | refine wq ?_
                    | (refine wc rfl (fun hc => ?_) (fun hc => ?_) <;> (try simp at hc) <;> (try omega))
                    | (refine ib (fun hc => ?_) (fun hc => ?_) <;> (try omega) <;> (try simp (disch := omega) only [if_pos, if_neg])))
                    all_goals (refine ⟨_, _, ?_, rfl, rfl, ⟨by simp [g0], by simp [g1], by simp [g2], by simp [g3], by simp [g9], by simp [g10], by simp [g11], by simp [g12]⟩, ?_, ?_⟩ <;> first | exact AW.le.refl _ | exact AW.le.alloc _ _ | exact hJ.wf | exact hJ.wf.alloc _ | omega)
                  · skip
                    repeat' (first
                    | (refine lwc fun R hR => ?_; simp [wrap_i64, wrap_u64, g0, g1, g2, g3, g9, g10, g11, g12, hvp, hkd, k1, k4, k5, hm5, hd5, AW.row_get]; try simp (disch := omega) only [if_pos, if_neg, wrap_i64, wrap_u64])
                    | (refine hR _ _ ?_; clear hR R) | (refine hK _ _ ?_; clear hK K) | refine lwn ?_ | refine lr ?_ | refine la ?_
                    | refine wn fun K hK => ?_
                    | simp only [wS]
                    | refine wb ?_ | refine wr ?_ | refine wk ?_ | refine we ?_ | refine ws ?_ | refine wq ?_
                    | (refine wc rfl (fun hc => ?_) (fun hc => ?_) <;> (try simp at hc) <;> (try omega))
                    | (refine ib (fun hc => ?_) (fun hc => ?_) <;> (try omega) <;> (try simp (disch := omega) only [if_pos, if_neg])))
                    all_goals (refine ⟨_, _, ?_, rfl, rfl, ⟨by simp [g0], by simp [g1], by simp [g2], by simp [g3], by simp [g9], by simp [g10], by simp [g11], by simp [g12]⟩, ?_, ?_⟩ <;> first | exact AW.le.refl _ | exact AW.le.alloc _ _ | exact hJ.wf | exact hJ.wf.alloc _ | omega)
                · by_cases k5 : kd = 2
                  · have k6 := k3 k5
                    subst k5
                    repeat' (first
                    | (refine lwc fun R hR => ?_; simp [wrap_i64, wrap_u64, g0, g1, g2, g3, g9, g10, g11, g12, hvp, hkd, k6, hm5, hd5, AW.row_get]; try simp (disch := omega) only [if_pos, if_neg, wrap_i64, wrap_u64])
                    | (refine hR _ _ ?_; clear hR R) | (refine hK _ _ ?_; clear hK K) | refine lwn ?_ | refine lr ?_ | refine la ?_
                    | refine wn fun K hK => ?_
                    | simp only [wS]
                    | refine wb ?_ | refine wr ?_ | refine wk ?_ | refine we ?_ | refine ws ?_ | refine wq ?_
                    | (refine wc rfl (fun hc => ?_) (fun hc => ?_) <;> (try simp at hc) <;> (try omega))
                    | (refine ib (fun hc => ?_) (fun hc => ?_) <;> (try omega) <;> (try simp (disch := omega) only [if_pos, if_neg])))
                    all_goals (refine ⟨_, _, ?_, rfl, rfl, ⟨by simp [g0], by simp [g1], by simp [g2], by simp [g3], by simp [g9], by simp [g10], by simp [g11], by simp [g12]⟩, ?_, ?_⟩ <;> first | exact AW.le.refl _ | exact AW.le.alloc _ _ | exact hJ.wf | exact hJ.wf.alloc _ | omega)
                  · skip
                    repeat' (first
                    | (refine lwc fun R hR => ?_; simp [wrap_i64, wrap_u64, g0, g1, g2, g3, g9, g10, g11, g12, hvp, hkd, k1, k4, k5, hm5, hd5, AW.row_get]; try simp (disch := omega) only [if_pos, if_neg, wrap_i64, wrap_u64])
                    | (refine hR _ _ ?_; clear hR R) | (refine hK _ _ ?_; clear hK K) | refine lwn ?_ | refine lr ?_ | refine la ?_
                    | refine wn fun K hK => ?_
                    | simp only [wS]
                    | refine wb ?_ | refine wr ?_ | refine wk ?_ | refine we ?_ | refine ws ?_ | refine wq ?_
                    | (refine wc rfl (fun hc => ?_) (fun hc => ?_) <;> (try simp at hc) <;> (try omega))
                    | (refine ib (fun hc => ?_) (fun hc => ?_) <;> (try omega) <;> (try simp (disch := omega) only [if_pos, if_neg])))
                    all_goals (refine ⟨_, _, ?_, rfl, rfl, ⟨by simp [g0], by simp [g1], by simp [g2], by simp [g3], by simp [g9], by simp [g10], by simp [g11], by simp [g12]⟩, ?_, ?_⟩ <;> first | exact AW.le.refl _ | exact AW.le.alloc _ _ | exact hJ.wf | exact hJ.wf.alloc _ | omega)
              · have k5 : ¬ kd = 2 := by omega
                repeat' (first
                | (refine lwc fun R hR => ?_; simp [wrap_i64, wrap_u64, g0, g1, g2, g3, g9, g10, g11, g12, hvp, hkd, k1, k4, k5, AW.row_get]; try simp (disch := omega) only [if_pos, if_neg, wrap_i64, wrap_u64])
                | (refine hR _ _ ?_; clear hR R) | (refine hK _ _ ?_; clear hK K) | refine lwn ?_ | refine lr ?_ | refine la ?_
                | refine wn fun K hK => ?_
                | simp only [wS]
                | refine wb ?_ | refine wr ?_ | refine wk ?_ | refine we ?_ | refine ws ?_ | refine wq ?_
                | (refine wc rfl (fun hc => ?_) (fun hc => ?_) <;> (try simp at hc) <;> (try omega))
                | (refine ib (fun hc => ?_) (fun hc => ?_) <;> (try omega) <;> (try simp (disch := omega) only [if_pos, if_neg])))
                all_goals (refine ⟨_, _, ?_, rfl, rfl, ⟨by simp [g0], by simp [g1], by simp [g2], by simp [g3], by simp [g9], by simp [g10], by simp [g11], by simp [g12]⟩, ?_, ?_⟩ <;> first | exact AW.le.refl _ | exact AW.le.alloc _ _ | exact hJ.wf | exact hJ.wf.alloc _ | omega)
            | false =>
              by_cases k5 : kd = 2
              · have k6 := k3 k5
                subst k5
                repeat' (first
                | (refine lwc fun R hR => ?_; simp [wrap_i64, wrap_u64, g0, g1, g2, g3, g9, g10, g11, g12, hvp, hkd, k6, AW.row_get]; try simp (disch := omega) only [if_pos, if_neg, wrap_i64, wrap_u64])
                | (refine hR _ _ ?_; clear hR R) | (refine hK _ _ ?_; clear hK K) | refine lwn ?_ | refine lr ?_ | refine la ?_
                | refine wn fun K hK => ?_
                | simp only [wS]
                | refine wb ?_ | refine wr ?_ | refine wk ?_ | refine we ?_ | refine ws ?_ | refine wq ?_
                | (refine wc rfl (fun hc => ?_) (fun hc => ?_) <;> (try simp at hc) <;> (try omega))
                | (refine ib (fun hc => ?_) (fun hc => ?_) <;> (try omega) <;> (try simp (disch := omega) only [if_pos, if_neg])))
                all_goals (refine ⟨_, _, ?_, rfl, rfl, ⟨by simp [g0], by simp [g1], by simp [g2], by simp [g3], by simp [g9], by simp [g10], by simp [g11], by simp [g12]⟩, ?_, ?_⟩ <;> first | exact AW.le.refl _ | exact AW.le.alloc _ _ | exact hJ.wf | exact hJ.wf.alloc _ | omega)
              · skip
                repeat' (first
                | (refine lwc fun R hR => ?_; simp [wrap_i64, wrap_u64, g0, g1, g2, g3, g9, g10, g11, g12, hvp, hkd, k1, k5, AW.row_get]; try simp (disch := omega) only [if_pos, if_neg, wrap_i64, wrap_u64])
                | (refine hR _ _ ?_; clear hR R) | (refine hK _ _ ?_; clear hK K) | refine lwn ?_ | refine lr ?_ | refine la ?_
                | refine wn fun K hK => ?_
                | simp only [wS]
                | refine wb ?_ | refine wr ?_ | refine wk ?_ | refine we ?_ | refine ws ?_ | refine wq ?_
                | (refine wc rfl (fun hc => ?_) (fun hc => ?_) <;> (try simp at hc) <;> (try omega))
                | (refine ib (fun hc => ?_) (fun hc => ?_) <;> (try omega) <;> (try simp (disch := omega) only [if_pos, if_neg])))
                all_goals (refine ⟨_, _, ?_, rfl, rfl, ⟨by simp [g0], by simp [g1], by simp [g2], by simp [g3], by simp [g9], by simp [g10], by simp [g11], by simp [g12]⟩, ?_, ?_⟩ <;> first | exact AW.le.refl _ | exact AW.le.alloc _ _ | exact hJ.wf | exact hJ.wf.alloc _ | omega)
          | true =>
            have hm4 : (n1 : Int).tmod 4 = ((n1 % 4 : Nat) : Int) := by rw [Int.tmod_eq_emod_of_nonneg (by omega)]; omega
            by_cases k5 : kd = 2
            · have k6 := k3 k5
              subst k5
              repeat' (first
              | (refine lwc fun R hR => ?_; simp [wrap_i64, wrap_u64, g0, g1, g2, g3, g9, g10, g11, g12, hvp, hkd, k6, AW.row_get]; try simp (disch := omega) only [if_pos, if_neg, wrap_i64, wrap_u64])
              | (refine hR _ _ ?_; clear hR R) | (refine hK _ _ ?_; clear hK K) | refine lwn ?_ | refine lr ?_ | refine la ?_
              | refine wn fun K hK => ?_
              | simp only [wS]
              | refine wb ?_ | refine wr ?_ | refine wk ?_ | refine we ?_ | refine ws ?_ | refine wq ?_
              | (refine wc rfl (fun hc => ?_) (fun hc => ?_) <;> (try simp at hc) <;> (try omega))
              | (refine ib (fun hc => ?_) (fun hc => ?_) <;> (try omega) <;> (try simp (disch := omega) only [if_pos, if_neg])))
              all_goals (refine ⟨_, _, ?_, rfl, rfl, ⟨by simp [g0], by simp [g1], by simp [g2], by simp [g3], by simp [g9], by simp [g10], by simp [g11], by simp [g12]⟩, ?_, ?_⟩ <;> first | exact AW.le.refl _ | exact AW.le.alloc _ _ | exact hJ.wf | exact hJ.wf.alloc _ | omega)
            · skip
              repeat' (first
              | (refine lwc fun R hR => ?_; simp [wrap_i64, wrap_u64, g0, g1, g2, g3, g9, g10, g11, g12, hvp, hkd, k1, k5, hm4, AW.row_get]; try simp (disch := omega) only [if_pos, if_neg, wrap_i64, wrap_u64])
              | (refine hR _ _ ?_; clear hR R) | (refine hK _ _ ?_; clear hK K) | refine lwn ?_ | refine lr ?_ | refine la ?_
              | refine wn fun K hK => ?_
              | simp only [wS]
              | refine wb ?_ | refine wr ?_ | refine wk ?_ | refine we ?_ | refine ws ?_ | refine wq ?_
              | (refine wc rfl (fun hc => ?_) (fun hc => ?_) <;> (try simp at hc) <;> (try omega))
              | (refine ib (fun hc => ?_) (fun hc => ?_) <;> (try omega) <;> (try simp (disch := omega) only [if_pos, if_neg])))
              all_goals (refine ⟨_, _, ?_, rfl, rfl, ⟨by simp [g0], by simp [g1], by simp [g2], by simp [g3], by simp [g9], by simp [g10], by simp [g11], by simp [g12]⟩, ?_, ?_⟩ <;> first | exact AW.le.refl _ | exact AW.le.alloc _ _ | exact hJ.wf | exact hJ.wf.alloc _ | omega)
        · rintro fr2 A2 ⟨o, n2, hn2, f15, f13, ⟨f0, f1, f2, f3, f9, f10, f11, f12⟩, hle2, hw2⟩
          clear hnn hnn2 hkd hkd0 hn1 hn12 hrow hcell
          subst hvp
          obtain ⟨x, hx, cI⟩ := instruction_call o n2 hn2
          have hJ2 := hJ.grow hle2 hw2
          obtain ⟨ra, hra⟩ : ∃ ra, IntKind.i64.wrap ((n2 : Int).tmod 4) = ra := ⟨_, rfl⟩
          obtain ⟨xo, xa, xb, xc, xi⟩ := x
          simp only at hx
          subst hx
          simp only [insCells] at cI
          have hz : ∀ O O', ((A2.alloc O).set A2.next O').Wf := fun O O' => (hw2.alloc O).set _ (by simp)
          by_cases o5 : xo = 5
          · subst o5
            obtain ⟨A3, hA3⟩ : ∃ A3, ((A2.alloc (.cells [.int .i64 0, .int .i64 0, .int .i64 0, .int .i64 0, .int .i64 0] true 1)).set A2.next (some (.cells [.int .i64 5, .int .i64 xa, .int .i64 xb, .int .i64 xc, .int .i64 xi] true 1))).set A2.next (some (.cells [.int .i64 5, .int .i64 ra, .int .i64 xb, .int .i64 xc, .int .i64 xi] true 1)) = A3 := ⟨_, rfl⟩
            have hA3' : (A2.alloc (.cells [.int .i64 0, .int .i64 0, .int .i64 0, .int .i64 0, .int .i64 0] true 1)).set A2.next (some (.cells [.int .i64 5, .int .i64 ra, .int .i64 xb, .int .i64 xc, .int .i64 xi] true 1)) = A3 := by rw [← hA3, AW.set_set]
            have hJ3 : PJ A A3 (.slice op ps.length cp) vj ps jl ps.length := by rw [← hA3']; exact hJ2.grow (AW.le.upd A2 _ _) (hz _ _)
            have hb3 : A3.get A2.next = some (.cells [.int .i64 5, .int .i64 ra, .int .i64 xb, .int .i64 xc, .int .i64 xi] true 1) := by rw [← hA3']; simp
            obtain ⟨vj', A4, e4, hJ4, hb4, -⟩ := hJ3.jump (by omega) hb3 (hJ2.ne (Nat.le_refl _))
            obtain ⟨vp', A5, e5, hJ5⟩ := hJ4.ins (by omega) ⟨5, ra, xb, xc, xi⟩
            simp only [insCells] at e5
            repeat' (first
            | (refine lwc fun R hR => ?_; simp [wrap_i64, wrap_u64, f0, f1, f2, f3, f9, f10, f11, f12, f13, f15, hra, hwi, AW.row_get, astore, hA3, hb3, e4, hb4, e5, ite_self]; try simp (disch := omega) only [if_pos, if_neg, wrap_i64, wrap_u64])
            | (refine hR _ _ ?_; clear hR R) | (refine hK _ _ ?_; clear hK K) | refine lwn ?_ | refine lr ?_ | refine la ?_
            | refine wn fun K hK => ?_
            | simp only [wS]
            | (refine callK (cI _) ?_; rintro _ _ ⟨rfl, rfl⟩ _ _)
            | refine wb ?_ | refine wr ?_ | refine wk ?_ | refine we ?_ | refine ws ?_ | refine wq ?_
            | (refine wc rfl (fun hc => ?_) (fun hc => ?_) <;> (try simp at hc) <;> (try omega))
            | (refine ib (fun hc => ?_) (fun hc => ?_) <;> (try omega) <;> (try simp (disch := omega) only [if_pos, if_neg])))
            refine ⟨l.length - (i + 1), by omega, i + 1, ps ++ [⟨5, ra, xb, xc, xi⟩], (jl ++ [(ps.length : Int)]), vp', vj', b, rfl, by omega, by omega, by simp [hps], by first | omega | (simp; omega), ⟨?_, ?_, ?_, ?_, ?_, ?_, ?_, ?_⟩, ?_⟩
            iterate 8 simp [f0, f1, f2, f3, f9, f10, f11, f12]
            exact hJ5.mono (by simp)
          by_cases o6 : xo = 6
          · subst o6
            obtain ⟨A3, hA3⟩ : ∃ A3, ((A2.alloc (.cells [.int .i64 0, .int .i64 0, .int .i64 0, .int .i64 0, .int .i64 0] true 1)).set A2.next (some (.cells [.int .i64 6, .int .i64 xa, .int .i64 xb, .int .i64 xc, .int .i64 xi] true 1))).set A2.next (some (.cells [.int .i64 6, .int .i64 ra, .int .i64 xb, .int .i64 xc, .int .i64 xi] true 1)) = A3 := ⟨_, rfl⟩
            have hA3' : (A2.alloc (.cells [.int .i64 0, .int .i64 0, .int .i64 0, .int .i64 0, .int .i64 0] true 1)).set A2.next (some (.cells [.int .i64 6, .int .i64 ra, .int .i64 xb, .int .i64 xc, .int .i64 xi] true 1)) = A3 := by rw [← hA3, AW.set_set]
            have hJ3 : PJ A A3 (.slice op ps.length cp) vj ps jl ps.length := by rw [← hA3']; exact hJ2.grow (AW.le.upd A2 _ _) (hz _ _)
            have hb3 : A3.get A2.next = some (.cells [.int .i64 6, .int .i64 ra, .int .i64 xb, .int .i64 xc, .int .i64 xi] true 1) := by rw [← hA3']; simp
            obtain ⟨vj', A4, e4, hJ4, hb4, -⟩ := hJ3.jump (by omega) hb3 (hJ2.ne (Nat.le_refl _))
            obtain ⟨vp', A5, e5, hJ5⟩ := hJ4.ins (by omega) ⟨6, ra, xb, xc, xi⟩
            simp only [insCells] at e5
            repeat' (first
            | (refine lwc fun R hR => ?_; simp [wrap_i64, wrap_u64, f0, f1, f2, f3, f9, f10, f11, f12, f13, f15, hra, hwi, AW.row_get, astore, hA3, hb3, e4, hb4, e5, o5, ite_self]; try simp (disch := omega) only [if_pos, if_neg, wrap_i64, wrap_u64])
            | (refine hR _ _ ?_; clear hR R) | (refine hK _ _ ?_; clear hK K) | refine lwn ?_ | refine lr ?_ | refine la ?_
            | refine wn fun K hK => ?_
            | simp only [wS]
            | (refine callK (cI _) ?_; rintro _ _ ⟨rfl, rfl⟩ _ _)
            | refine wb ?_ | refine wr ?_ | refine wk ?_ | refine we ?_ | refine ws ?_ | refine wq ?_
            | (refine wc rfl (fun hc => ?_) (fun hc => ?_) <;> (try simp at hc) <;> (try omega))
            | (refine ib (fun hc => ?_) (fun hc => ?_) <;> (try omega) <;> (try simp (disch := omega) only [if_pos, if_neg])))
            refine ⟨l.length - (i + 1), by omega, i + 1, ps ++ [⟨6, ra, xb, xc, xi⟩], (jl ++ [(ps.length : Int)]), vp', vj', b, rfl, by omega, by omega, by simp [hps], by first | omega | (simp; omega), ⟨?_, ?_, ?_, ?_, ?_, ?_, ?_, ?_⟩, ?_⟩
            iterate 8 simp [f0, f1, f2, f3, f9, f10, f11, f12]
            exact hJ5.mono (by simp)
          by_cases o4 : xo = 4
          · subst o4
            obtain ⟨A3, hA3⟩ : ∃ A3, (A2.alloc (.cells [.int .i64 0, .int .i64 0, .int .i64 0, .int .i64 0, .int .i64 0] true 1)).set A2.next (some (.cells [.int .i64 4, .int .i64 xa, .int .i64 xb, .int .i64 xc, .int .i64 xi] true 1)) = A3 := ⟨_, rfl⟩
            have hA3' := hA3
            have hJ3 : PJ A A3 (.slice op ps.length cp) vj ps jl ps.length := by rw [← hA3']; exact hJ2.grow (AW.le.upd A2 _ _) (hz _ _)
            have hb3 : A3.get A2.next = some (.cells [.int .i64 4, .int .i64 xa, .int .i64 xb, .int .i64 xc, .int .i64 xi] true 1) := by rw [← hA3']; simp
            obtain ⟨vj', A4, e4, hJ4, hb4, -⟩ := hJ3.jump (by omega) hb3 (hJ2.ne (Nat.le_refl _))
            obtain ⟨vp', A5, e5, hJ5⟩ := hJ4.ins (by omega) ⟨4, xa, xb, xc, xi⟩
            simp only [insCells] at e5
            repeat' (first
            | (refine lwc fun R hR => ?_; simp [wrap_i64, wrap_u64, f0, f1, f2, f3, f9, f10, f11, f12, f13, f15, hra, hwi, AW.row_get, astore, hA3, hb3, e4, hb4, e5, o5, o6, ite_self]; try simp (disch := omega) only [if_pos, if_neg, wrap_i64, wrap_u64])
            | (refine hR _ _ ?_; clear hR R) | (refine hK _ _ ?_; clear hK K) | refine lwn ?_ | refine lr ?_ | refine la ?_
            | refine wn fun K hK => ?_
            | simp only [wS]
            | (refine callK (cI _) ?_; rintro _ _ ⟨rfl, rfl⟩ _ _)
            | refine wb ?_ | refine wr ?_ | refine wk ?_ | refine we ?_ | refine ws ?_ | refine wq ?_
            | (refine wc rfl (fun hc => ?_) (fun hc => ?_) <;> (try simp at hc) <;> (try omega))
            | (refine ib (fun hc => ?_) (fun hc => ?_) <;> (try omega) <;> (try simp (disch := omega) only [if_pos, if_neg])))
            refine ⟨l.length - (i + 1), by omega, i + 1, ps ++ [⟨4, xa, xb, xc, xi⟩], (jl ++ [(ps.length : Int)]), vp', vj', b, rfl, by omega, by omega, by simp [hps], by first | omega | (simp; omega), ⟨?_, ?_, ?_, ?_, ?_, ?_, ?_, ?_⟩, ?_⟩
            iterate 8 simp [f0, f1, f2, f3, f9, f10, f11, f12]
            exact hJ5.mono (by simp)
          by_cases o7 : xo = 7
          · subst o7
            obtain ⟨A3, hA3⟩ : ∃ A3, (A2.alloc (.cells [.int .i64 0, .int .i64 0, .int .i64 0, .int .i64 0, .int .i64 0] true 1)).set A2.next (some (.cells [.int .i64 7, .int .i64 xa, .int .i64 xb, .int .i64 xc, .int .i64 xi] true 1)) = A3 := ⟨_, rfl⟩
            have hA3' := hA3
            have hJ3 : PJ A A3 (.slice op ps.length cp) vj ps jl ps.length := by rw [← hA3']; exact hJ2.grow (AW.le.upd A2 _ _) (hz _ _)
            have hb3 : A3.get A2.next = some (.cells [.int .i64 7, .int .i64 xa, .int .i64 xb, .int .i64 xc, .int .i64 xi] true 1) := by rw [← hA3']; simp
            obtain ⟨vp', A5, e5, hJ5⟩ := hJ3.ins (by omega) ⟨7, xa, xb, xc, xi⟩
            simp only [insCells] at e5
            repeat' (first
            | (refine lwc fun R hR => ?_; simp [wrap_i64, wrap_u64, f0, f1, f2, f3, f9, f10, f11, f12, f13, f15, hra, hwi, AW.row_get, astore, hA3, hb3, e5, o5, o6, o4, ite_self]; try simp (disch := omega) only [if_pos, if_neg, wrap_i64, wrap_u64])
            | (refine hR _ _ ?_; clear hR R) | (refine hK _ _ ?_; clear hK K) | refine lwn ?_ | refine lr ?_ | refine la ?_
            | refine wn fun K hK => ?_
            | simp only [wS]
            | (refine callK (cI _) ?_; rintro _ _ ⟨rfl, rfl⟩ _ _)
            | refine wb ?_ | refine wr ?_ | refine wk ?_ | refine we ?_ | refine ws ?_ | refine wq ?_
            | (refine wc rfl (fun hc => ?_) (fun hc => ?_) <;> (try simp at hc) <;> (try omega))
            | (refine ib (fun hc => ?_) (fun hc => ?_) <;> (try omega) <;> (try simp (disch := omega) only [if_pos, if_neg])))
            refine ⟨l.length - (i + 1), by omega, i + 1, ps ++ [⟨7, xa, xb, xc, xi⟩], jl, vp', vj, true, rfl, by omega, by omega, by simp [hps], by first | omega | (simp; omega), ⟨?_, ?_, ?_, ?_, ?_, ?_, ?_, ?_⟩, ?_⟩
            iterate 8 simp [f0, f1, f2, f3, f9, f10, f11, f12]
            exact hJ5.mono (by simp)
          by_cases o8 : xo = 8
          · subst o8
            obtain ⟨A3, hA3⟩ : ∃ A3, (A2.alloc (.cells [.int .i64 0, .int .i64 0, .int .i64 0, .int .i64 0, .int .i64 0] true 1)).set A2.next (some (.cells [.int .i64 8, .int .i64 xa, .int .i64 xb, .int .i64 xc, .int .i64 xi] true 1)) = A3 := ⟨_, rfl⟩
            have hA3' := hA3
            have hJ3 : PJ A A3 (.slice op ps.length cp) vj ps jl ps.length := by rw [← hA3']; exact hJ2.grow (AW.le.upd A2 _ _) (hz _ _)
            have hb3 : A3.get A2.next = some (.cells [.int .i64 8, .int .i64 xa, .int .i64 xb, .int .i64 xc, .int .i64 xi] true 1) := by rw [← hA3']; simp
            obtain ⟨vp', A5, e5, hJ5⟩ := hJ3.ins (by omega) ⟨8, xa, xb, xc, xi⟩
            simp only [insCells] at e5
            repeat' (first
            | (refine lwc fun R hR => ?_; simp [wrap_i64, wrap_u64, f0, f1, f2, f3, f9, f10, f11, f12, f13, f15, hra, hwi, AW.row_get, astore, hA3, hb3, e5, o5, o6, o4, o7, ite_self]; try simp (disch := omega) only [if_pos, if_neg, wrap_i64, wrap_u64])
            | (refine hR _ _ ?_; clear hR R) | (refine hK _ _ ?_; clear hK K) | refine lwn ?_ | refine lr ?_ | refine la ?_
            | refine wn fun K hK => ?_
            | simp only [wS]
            | (refine callK (cI _) ?_; rintro _ _ ⟨rfl, rfl⟩ _ _)
            | refine wb ?_ | refine wr ?_ | refine wk ?_ | refine we ?_ | refine ws ?_ | refine wq ?_
            | (refine wc rfl (fun hc => ?_) (fun hc => ?_) <;> (try simp at hc) <;> (try omega))
            | (refine ib (fun hc => ?_) (fun hc => ?_) <;> (try omega) <;> (try simp (disch := omega) only [if_pos, if_neg])))
            refine ⟨l.length - (i + 1), by omega, i + 1, ps ++ [⟨8, xa, xb, xc, xi⟩], jl, vp', vj, false, rfl, by omega, by omega, by simp [hps], by first | omega | (simp; omega), ⟨?_, ?_, ?_, ?_, ?_, ?_, ?_, ?_⟩, ?_⟩
            iterate 8 simp [f0, f1, f2, f3, f9, f10, f11, f12]
            exact hJ5.mono (by simp)
          obtain ⟨A3, hA3⟩ : ∃ A3, (A2.alloc (.cells [.int .i64 0, .int .i64 0, .int .i64 0, .int .i64 0, .int .i64 0] true 1)).set A2.next (some (.cells [.int .i64 xo, .int .i64 xa, .int .i64 xb, .int .i64 xc, .int .i64 xi] true 1)) = A3 := ⟨_, rfl⟩
          have hA3' := hA3
          have hJ3 : PJ A A3 (.slice op ps.length cp) vj ps jl ps.length := by rw [← hA3']; exact hJ2.grow (AW.le.upd A2 _ _) (hz _ _)
          have hb3 : A3.get A2.next = some (.cells [.int .i64 xo, .int .i64 xa, .int .i64 xb, .int .i64 xc, .int .i64 xi] true 1) := by rw [← hA3']; simp
          obtain ⟨vp', A5, e5, hJ5⟩ := hJ3.ins (by omega) ⟨xo, xa, xb, xc, xi⟩
          simp only [insCells] at e5
          repeat' (first
          | (refine lwc fun R hR => ?_; simp [wrap_i64, wrap_u64, f0, f1, f2, f3, f9, f10, f11, f12, f13, f15, hra, hwi, AW.row_get, astore, hA3, hb3, e5, o5, o6, o4, o7, o8, ite_self]; try simp (disch := omega) only [if_pos, if_neg, wrap_i64, wrap_u64])
          | (refine hR _ _ ?_; clear hR R) | (refine hK _ _ ?_; clear hK K) | refine lwn ?_ | refine lr ?_ | refine la ?_
          | refine wn fun K hK => ?_
          | simp only [wS]
          | (refine callK (cI _) ?_; rintro _ _ ⟨rfl, rfl⟩ _ _)
          | refine wb ?_ | refine wr ?_ | refine wk ?_ | refine we ?_ | refine ws ?_ | refine wq ?_
          | (refine wc rfl (fun hc => ?_) (fun hc => ?_) <;> (try simp at hc) <;> (try omega))
          | (refine ib (fun hc => ?_) (fun hc => ?_) <;> (try omega) <;> (try simp (disch := omega) only [if_pos, if_neg])))
          refine ⟨l.length - (i + 1), by omega, i + 1, ps ++ [⟨xo, xa, xb, xc, xi⟩], jl, vp', vj, b, rfl, by omega, by omega, by simp [hps], by first | omega | (simp; omega), ⟨?_, ?_, ?_, ?_, ?_, ?_, ?_, ?_⟩, ?_⟩
          iterate 8 simp [f0, f1, f2, f3, f9, f10, f11, f12]
          exact hJ5.mono (by simp)
      · refine awp_seq ?_
        repeat' (first
        | (refine lwc fun R hR => ?_; simp [wrap_i64, wrap_u64, g0, g1, g2, g3, g9, g10, g11, g12, hvp, hlt, hlt2, hws]; try simp (disch := omega) only [if_pos, if_neg, wrap_i64, wrap_u64])
        | (refine hR _ _ ?_; clear hR R) | (refine hK _ _ ?_; clear hK K) | refine lwn ?_ | refine lr ?_ | refine la ?_
        | refine wn fun K hK => ?_
        | simp only [wS]
        | refine wb ?_ | refine wr ?_ | refine wk ?_ | refine we ?_ | refine ws ?_ | refine wq ?_
        | (refine wc rfl (fun hc => ?_) (fun hc => ?_) <;> (try simp at hc) <;> (try omega))
        | (refine ib (fun hc => ?_) (fun hc => ?_) <;> (try omega) <;> (try simp (disch := omega) only [if_pos, if_neg])))
        exact ⟨ps, jl, vp, vj, b, by omega, by omega, by simp [g9, hvp], by simp [g10], by simp [g11], hJ⟩
    · refine awp_seq ?_
      repeat' (first
      | (refine lwc fun R hR => ?_; simp [wrap_i64, wrap_u64, g0, g1, g2, g3, g9, g10, g11, g12, hvp, hlt, hws]; try simp (disch := omega) only [if_pos, if_neg, wrap_i64, wrap_u64])
      | (refine hR _ _ ?_; clear hR R) | (refine hK _ _ ?_; clear hK K) | refine lwn ?_ | refine lr ?_ | refine la ?_
      | refine wn fun K hK => ?_
      | simp only [wS]
      | refine wb ?_ | refine wr ?_ | refine wk ?_ | refine we ?_ | refine ws ?_ | refine wq ?_
      | (refine wc rfl (fun hc => ?_) (fun hc => ?_) <;> (try simp at hc) <;> (try omega))
      | (refine ib (fun hc => ?_) (fun hc => ?_) <;> (try omega) <;> (try simp (disch := omega) only [if_pos, if_neg])))
      exact ⟨ps, jl, vp, vj, b, by omega, by omega, by simp [g9, hvp], by simp [g10], by simp [g11], hJ⟩
end Go.Stx
