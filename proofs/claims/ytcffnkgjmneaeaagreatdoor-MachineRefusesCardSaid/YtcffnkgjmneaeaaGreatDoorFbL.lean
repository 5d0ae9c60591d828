/-
  The program's check of a program; the commit of a transaction, by both.
-/
import Derived.Test.YtcffnkgjmneaeaaGreatDoorFbK
namespace Go.Stx
open Go Go.Proofs
attribute [local irreducible] AWP LWalk ACall ARounds lops nops
set_option linter.unusedVariables false
set_option linter.unusedSimpArgs false
set_option linter.unusedSectionVars false
set_option maxRecDepth 20000
variable [Gl]

set_option maxHeartbeats 8000000 in
theorem progCheck_call (hF : FOK) (v : Value) (p : List InsV) (A : AW) (h : IsIns A v p) :
    ACall Tryz.prog 25 [v] A (fun u A' => u = errV (progCheck p) ∧ A = A') := by
  refine ACall.gc0 (V := errV (progCheck p)) (VBelow.tuple (by simp)) (fun hw => ?_) (by kernel_rfl)
  refine acall_intro Tryz.func25 rfl (by kernel_rfl) fun _ => ?_
  obtain ⟨o, c, rfl, _⟩ := h.form
  by_cases hL : 64 < p.length
  · have he : progCheck p = (0, 3) := by unfold progCheck; rw [if_pos hL]
    rw [he]
    repeat' (first
    | (refine lwc fun R hR => ?_; simp [wrap_i64, wrap_u64, hL]; try simp (disch := omega) only [if_pos, if_neg, wrap_i64, wrap_u64])
    | (refine hR _ _ ?_; clear hR R) | (refine hK _ _ ?_; clear hK K) | refine lwn ?_ | refine lr ?_ | refine la ?_
    | refine wn fun K hK => ?_
    | simp only [wS]
    | refine wb ?_ | refine wr ?_ | refine wk ?_ | refine we ?_ | refine ws ?_ | refine wq ?_
    | (refine wc rfl (fun hc => ?_) (fun hc => ?_) <;> (try simp at hc) <;> (try omega))
    | (refine ib (fun hc => ?_) (fun hc => ?_) <;> (try omega) <;> (try simp (disch := omega) only [if_pos, if_neg])))
    all_goals first | exact AW.le.refl A | (simp [AThen, APost, ares, aresL, ares1, errV] <;> exact AW.le.refl A)
  have hl : p.length < 2^30 := by omega
  have he : progCheck p = checkGo (progTarget p) (p.drop 0) 0 none := by unfold progCheck; rw [if_neg hL]; rfl
  generalize htgt : progTarget p = tgt at he
  generalize progCheck p = R at he ⊢
  repeat' (first
  | (refine lwc fun R hR => ?_; simp [wrap_i64, wrap_u64, hL]; try simp (disch := omega) only [if_pos, if_neg, wrap_i64, wrap_u64])
  | (refine hR _ _ ?_; clear hR R) | (refine hK _ _ ?_; clear hK K) | refine lwn ?_ | refine lr ?_ | refine la ?_
  | refine wn fun K hK => ?_
  | simp only [wS]
  | refine wb ?_ | refine wr ?_ | refine wk ?_ | refine we ?_ | refine ws ?_ | refine wq ?_
  | (refine wc rfl (fun hc => ?_) (fun hc => ?_) <;> (try simp at hc) <;> (try omega))
  | (refine ib (fun hc => ?_) (fun hc => ?_) <;> (try omega) <;> (try simp (disch := omega) only [if_pos, if_neg])))
  refine awp_loop (fun k fr A' => A.le A' ∧ ∃ (i : Nat) (b : Option Nat), k = p.length - i ∧ i ≤ p.length ∧ (∀ d, b = some d → d < i) ∧ fr 0 = .slice o p.length c ∧ fr 11 = .slice o p.length c ∧ fr 12 = .int .i64 p.length ∧ fr 4 = .int .i64 (optI b) ∧ fr 13 = .int .i64 i ∧
    R = checkGo tgt (p.drop i) i b) p.length ?_ ?_
  · exact ⟨AW.le.refl A, 0, none, rfl, Nat.zero_le _, by simp, rfl, rfl, rfl, rfl, rfl, he⟩
  · rintro k fr A' ⟨hle', i, b, rfl, hi, hbi, h0, h11, h12, h4, h13, he⟩
    by_cases hlt : i < p.length
    · obtain ⟨q, row, hq', hrow, hle, hcell⟩ := (h.le hle' hw).at hlt
      subst hq'
      have hwi : IntKind.i64.wrap ((i : Int) + 1) = ((i + 1 : Nat) : Int) := wrap_i64 (by omega) (by omega)
      have hdr : p.drop i = p[i] :: p.drop (i + 1) := List.drop_eq_getElem_cons hlt
      rw [hdr] at he
      have cO := fun o o' => one_call hF _ p i b _ (h.le (hle'.trans (AW.le.upd A' o o')) hw) (by omega) hlt (fun d hd => by have := hbi d hd; omega)
      rw [htgt] at cO
      generalize p[i] = x at he hcell cO
      clear hdr
      have hcell0 := ins_op hcell
      unfold checkGo at he
      generalize hE : oneE tgt i b x = E at he cO
      generalize hN : nextB i b x = N at he
      unfold nextB at hN
      obtain ⟨op, a, b', c', imm⟩ := x
      simp only at hN hcell0
      simp only [insCells] at hcell
      by_cases e0 : E = 0
      · subst e0
        rw [if_pos rfl] at he
        by_cases o7 : op = 7
        · subst o7
          rw [if_pos rfl] at hN
          subst hN
          refine awp_seq ?_
          repeat' (first
          | (refine lwc fun R hR => ?_; simp [wrap_i64, wrap_u64, h0, h4, h11, h12, h13, hrow, hcell0, hcell, hle, hlt, hwi, AW.row_get, astore]; try simp (disch := omega) only [if_pos, if_neg, wrap_i64, wrap_u64])
          | (refine hR _ _ ?_; clear hR R) | (refine hK _ _ ?_; clear hK K) | refine lwn ?_ | refine lr ?_ | refine la ?_
          | refine wn fun K hK => ?_
          | simp only [wS]
          | (refine callK (cO _ _) ?_; rintro _ _ ⟨rfl, rfl⟩ _ _)
          | refine wb ?_ | refine wr ?_ | refine wk ?_ | refine we ?_ | refine ws ?_ | refine wq ?_
          | (refine wc rfl (fun hc => ?_) (fun hc => ?_) <;> (try simp at hc) <;> (try omega))
          | (refine ib (fun hc => ?_) (fun hc => ?_) <;> (try omega) <;> (try simp (disch := omega) only [if_pos, if_neg])))
          refine ⟨p.length - (i + 1), by omega, hle'.trans (AW.le.upd A' _ _), i + 1, some i, rfl, by omega, ?_, ?_, ?_, ?_, ?_, ?_, he⟩ <;> simp [h0, h4, h11, h12, h13, optI]
        · by_cases o8 : op = 8
          · subst o8
            rw [if_neg (by decide), if_pos rfl] at hN
            subst hN
            refine awp_seq ?_
            repeat' (first
            | (refine lwc fun R hR => ?_; simp [wrap_i64, wrap_u64, h0, h4, h11, h12, h13, hrow, hcell0, hcell, hle, hlt, hwi, AW.row_get, astore]; try simp (disch := omega) only [if_pos, if_neg, wrap_i64, wrap_u64])
            | (refine hR _ _ ?_; clear hR R) | (refine hK _ _ ?_; clear hK K) | refine lwn ?_ | refine lr ?_ | refine la ?_
            | refine wn fun K hK => ?_
            | simp only [wS]
            | (refine callK (cO _ _) ?_; rintro _ _ ⟨rfl, rfl⟩ _ _)
            | refine wb ?_ | refine wr ?_ | refine wk ?_ | refine we ?_ | refine ws ?_ | refine wq ?_
            | (refine wc rfl (fun hc => ?_) (fun hc => ?_) <;> (try simp at hc) <;> (try omega))
            | (refine ib (fun hc => ?_) (fun hc => ?_) <;> (try omega) <;> (try simp (disch := omega) only [if_pos, if_neg])))
            refine ⟨p.length - (i + 1), by omega, hle'.trans (AW.le.upd A' _ _), i + 1, none, rfl, by omega, ?_, ?_, ?_, ?_, ?_, ?_, he⟩ <;> simp [h0, h4, h11, h12, h13, optI]
          · rw [if_neg o7, if_neg o8] at hN
            subst hN
            refine awp_seq ?_
            repeat' (first
            | (refine lwc fun R hR => ?_; simp [wrap_i64, wrap_u64, h0, h4, h11, h12, h13, hrow, hcell0, hcell, hle, hlt, hwi, AW.row_get, astore, o7, o8]; try simp (disch := omega) only [if_pos, if_neg, wrap_i64, wrap_u64])
            | (refine hR _ _ ?_; clear hR R) | (refine hK _ _ ?_; clear hK K) | refine lwn ?_ | refine lr ?_ | refine la ?_
            | refine wn fun K hK => ?_
            | simp only [wS]
            | (refine callK (cO _ _) ?_; rintro _ _ ⟨rfl, rfl⟩ _ _)
            | refine wb ?_ | refine wr ?_ | refine wk ?_ | refine we ?_ | refine ws ?_ | refine wq ?_
            | (refine wc rfl (fun hc => ?_) (fun hc => ?_) <;> (try simp at hc) <;> (try omega))
            | (refine ib (fun hc => ?_) (fun hc => ?_) <;> (try omega) <;> (try simp (disch := omega) only [if_pos, if_neg])))
            refine ⟨p.length - (i + 1), by omega, hle'.trans (AW.le.upd A' _ _), i + 1, b, rfl, by omega, fun d hd => Nat.lt_succ_of_lt (hbi d hd), ?_, ?_, ?_, ?_, ?_, he⟩ <;> simp [h0, h4, h11, h12, h13, optI]
      · rw [if_neg e0] at he
        refine awp_seq ?_
        repeat' (first
        | (refine lwc fun R hR => ?_; simp [wrap_i64, wrap_u64, h0, h4, h11, h12, h13, hrow, hcell0, hcell, hle, hlt, hwi, AW.row_get, astore, e0]; try simp (disch := omega) only [if_pos, if_neg, wrap_i64, wrap_u64])
        | (refine hR _ _ ?_; clear hR R) | (refine hK _ _ ?_; clear hK K) | refine lwn ?_ | refine lr ?_ | refine la ?_
        | refine wn fun K hK => ?_
        | simp only [wS]
        | (refine callK (cO _ _) ?_; rintro _ _ ⟨rfl, rfl⟩ _ _)
        | refine wb ?_ | refine wr ?_ | refine wk ?_ | refine we ?_ | refine ws ?_ | refine wq ?_
        | (refine wc rfl (fun hc => ?_) (fun hc => ?_) <;> (try simp at hc) <;> (try omega))
        | (refine ib (fun hc => ?_) (fun hc => ?_) <;> (try omega) <;> (try simp (disch := omega) only [if_pos, if_neg])))
        all_goals first | exact hle'.trans (AW.le.upd A' _ _) | (simp [ABlock, AThen, APost, ares, aresL, ares1, errV, he] <;> exact hle'.trans (AW.le.upd A' _ _))
    · have hil : i = p.length := by omega
      subst hil
      rw [List.drop_length] at he
      unfold checkGo at he
      cases b with
      | none =>
        simp only [optI] at h4
        refine awp_seq ?_
        repeat' (first
        | (refine lwc fun R hR => ?_; simp [wrap_i64, wrap_u64, h0, h4, h11, h12, h13, hlt]; try simp (disch := omega) only [if_pos, if_neg, wrap_i64, wrap_u64])
        | (refine hR _ _ ?_; clear hR R) | (refine hK _ _ ?_; clear hK K) | refine lwn ?_ | refine lr ?_ | refine la ?_
        | refine wn fun K hK => ?_
        | simp only [wS]
        | refine wb ?_ | refine wr ?_ | refine wk ?_ | refine we ?_ | refine ws ?_ | refine wq ?_
        | (refine wc rfl (fun hc => ?_) (fun hc => ?_) <;> (try simp at hc) <;> (try omega))
        | (refine ib (fun hc => ?_) (fun hc => ?_) <;> (try omega) <;> (try simp (disch := omega) only [if_pos, if_neg])))
        all_goals first | exact hle' | (simp [ABlock, AThen, APost, ares, aresL, ares1, errV, he] <;> exact hle')
      | some d =>
        simp only [optI] at h4
        have hd0 : ¬ ((d : Int) < 0) := by omega
        have hd1 : (0 : Int) ≤ d := by omega
        refine awp_seq ?_
        repeat' (first
        | (refine lwc fun R hR => ?_; simp [wrap_i64, wrap_u64, h0, h4, h11, h12, h13, hlt, hd0, hd1]; try simp (disch := omega) only [if_pos, if_neg, wrap_i64, wrap_u64])
        | (refine hR _ _ ?_; clear hR R) | (refine hK _ _ ?_; clear hK K) | refine lwn ?_ | refine lr ?_ | refine la ?_
        | refine wn fun K hK => ?_
        | simp only [wS]
        | refine wb ?_ | refine wr ?_ | refine wk ?_ | refine we ?_ | refine ws ?_ | refine wq ?_
        | (refine wc rfl (fun hc => ?_) (fun hc => ?_) <;> (try simp at hc) <;> (try omega))
        | (refine ib (fun hc => ?_) (fun hc => ?_) <;> (try omega) <;> (try simp (disch := omega) only [if_pos, if_neg])))
        all_goals first | exact hle' | (simp [ABlock, AThen, APost, ares, aresL, ares1, errV, he] <;> exact hle')

def progOk (p : List InsV) : Bool := decide ((progCheck p).2 = 0)

set_option maxHeartbeats 1000000 in
theorem valid_call (hF : FOK) (v : Value) (p : List InsV) (A : AW) (h : IsIns A v p) :
    ACall Tryz.prog 228 [v] A (fun u A' => u = .bool (progOk p) ∧ A = A') := by
  refine acall_intro Tryz.func228 rfl (by kernel_rfl) fun hw => ?_
  have cC := progCheck_call hF v p A h
  unfold progOk
  unfold errV at cC
  by_cases h0 : (progCheck p).2 = 0
  · repeat' (first
  | (refine lwc fun R hR => ?_; simp [wrap_i64, wrap_u64, h0]; try simp (disch := omega) only [if_pos, if_neg, wrap_i64, wrap_u64])
  | (refine hR _ _ ?_; clear hR R) | (refine hK _ _ ?_; clear hK K) | refine lwn ?_ | refine lr ?_ | refine la ?_
  | refine wn fun K hK => ?_
  | simp only [wS]
  | (refine callK (cC) ?_; rintro _ _ ⟨rfl, rfl⟩ _ _)
  | refine wb ?_ | refine wr ?_ | refine wk ?_ | refine we ?_ | refine ws ?_ | refine wq ?_
  | (refine wc rfl (fun hc => ?_) (fun hc => ?_) <;> (try simp at hc) <;> (try omega))
  | (refine ib (fun hc => ?_) (fun hc => ?_) <;> (try omega) <;> (try simp (disch := omega) only [if_pos, if_neg])))
    all_goals simp [AThen, APost, ares, aresL, ares1, h0]
  · repeat' (first
  | (refine lwc fun R hR => ?_; simp [wrap_i64, wrap_u64, h0]; try simp (disch := omega) only [if_pos, if_neg, wrap_i64, wrap_u64])
  | (refine hR _ _ ?_; clear hR R) | (refine hK _ _ ?_; clear hK K) | refine lwn ?_ | refine lr ?_ | refine la ?_
  | refine wn fun K hK => ?_
  | simp only [wS]
  | (refine callK (cC) ?_; rintro _ _ ⟨rfl, rfl⟩ _ _)
  | refine wb ?_ | refine wr ?_ | refine wk ?_ | refine we ?_ | refine ws ?_ | refine wq ?_
  | (refine wc rfl (fun hc => ?_) (fun hc => ?_) <;> (try simp at hc) <;> (try omega))
  | (refine ib (fun hc => ?_) (fun hc => ?_) <;> (try omega) <;> (try simp (disch := omega) only [if_pos, if_neg])))
    all_goals simp [AThen, APost, ares, aresL, ares1, h0]

/-- The commit of the transaction that begins at k. -/
def commitF (p : List InsV) (k : Nat) : Int := if progOk p = true ∧ insOp p k = 7 then progEnd p k else -1

theorem spanF_begin {p : List InsV} (hv : progOk p = true) {k : Nat} (h7 : insOp p k = 7) : spanF p k = some (k, progEnd p k) := by
  have hk : k < p.length := insOp_lt (by omega)
  have hv' : (progCheck p).2 = 0 := by simpa [progOk] using hv
  rw [spanF_eq (by omega)]
  cases hb : scanB p k with
  | none =>
    simp only
    rw [if_pos h7]
  | some b =>
    obtain ⟨h1, h2, h3⟩ := progCheck_ok hv'
    have h4 := h2 k p[k] (List.getElem?_eq_getElem hk)
    rw [hb] at h4
    have e := insOp_get (List.getElem?_eq_getElem hk)
    unfold oneE at h4
    split at h4
    · rw [if_pos (.inl ⟨by rw [← e]; exact h7, rfl⟩)] at h4
      cases h4
    · rename_i h5; exact absurd h4 h5

set_option maxHeartbeats 2000000 in
theorem commit_call (hF : FOK) (v : Value) (p : List InsV) (k : Nat) (A : AW) (h : IsIns A v p) (hk : k < p.length) :
    ACall Tryz.prog 194 [v, .int .i64 k] A (fun u A' => u = .int .i64 (commitF p k) ∧ A = A') := by
  refine acall_intro Tryz.func194 rfl (by kernel_rfl) fun hw => ?_
  have cV := valid_call hF v p A h
  unfold commitF
  cases hv : progOk p with
  | false =>
    rw [hv] at cV
    obtain ⟨o, c, rfl, _⟩ := h.form
    repeat' (first
    | (refine lwc fun R hR => ?_; simp [wrap_i64, wrap_u64, hk]; try simp (disch := omega) only [if_pos, if_neg, wrap_i64, wrap_u64])
    | (refine hR _ _ ?_; clear hR R) | (refine hK _ _ ?_; clear hK K) | refine lwn ?_ | refine lr ?_ | refine la ?_
    | refine wn fun K hK => ?_
    | simp only [wS]
    | (refine callK (cV) ?_; rintro _ _ ⟨rfl, rfl⟩ _ _)
    | refine wb ?_ | refine wr ?_ | refine wk ?_ | refine we ?_ | refine ws ?_ | refine wq ?_
    | (refine wc rfl (fun hc => ?_) (fun hc => ?_) <;> (try simp at hc) <;> (try omega))
    | (refine ib (fun hc => ?_) (fun hc => ?_) <;> (try omega) <;> (try simp (disch := omega) only [if_pos, if_neg])))
    all_goals simp [AThen, APost, ares, aresL, ares1]
  | true =>
    rw [hv] at cV
    have hl : p.length ≤ 64 := (progCheck_ok (p := p) (by simpa [progOk] using hv)).1
    have cE := end_call v p k A h (by omega) hk
    obtain ⟨o, c, rfl, _⟩ := h.form
    obtain ⟨q, row, hq', hrow, hle, hcell⟩ := h.at hk
    subst hq'
    have hcell0 := ins_op hcell
    have ho : insOp p k = p[k].op := insOp_get (List.getElem?_eq_getElem hk)
    rw [ho]
    by_cases h7 : p[k].op = 7
    · repeat' (first
    | (refine lwc fun R hR => ?_; simp [wrap_i64, wrap_u64, hk, hrow, hcell0, hle, h7]; try simp (disch := omega) only [if_pos, if_neg, wrap_i64, wrap_u64])
    | (refine hR _ _ ?_; clear hR R) | (refine hK _ _ ?_; clear hK K) | refine lwn ?_ | refine lr ?_ | refine la ?_
    | refine wn fun K hK => ?_
    | simp only [wS]
    | (refine callK (cV) ?_; rintro _ _ ⟨rfl, rfl⟩ _ _)
    | (refine callK (cE) ?_; rintro _ _ ⟨rfl, rfl⟩ _ _)
    | refine wb ?_ | refine wr ?_ | refine wk ?_ | refine we ?_ | refine ws ?_ | refine wq ?_
    | (refine wc rfl (fun hc => ?_) (fun hc => ?_) <;> (try simp at hc) <;> (try omega))
    | (refine ib (fun hc => ?_) (fun hc => ?_) <;> (try omega) <;> (try simp (disch := omega) only [if_pos, if_neg])))
      all_goals simp [AThen, APost, ares, aresL, ares1, h7]
    · repeat' (first
    | (refine lwc fun R hR => ?_; simp [wrap_i64, wrap_u64, hk, hrow, hcell0, hle, h7]; try simp (disch := omega) only [if_pos, if_neg, wrap_i64, wrap_u64])
    | (refine hR _ _ ?_; clear hR R) | (refine hK _ _ ?_; clear hK K) | refine lwn ?_ | refine lr ?_ | refine la ?_
    | refine wn fun K hK => ?_
    | simp only [wS]
    | (refine callK (cV) ?_; rintro _ _ ⟨rfl, rfl⟩ _ _)
    | (refine callK (cE) ?_; rintro _ _ ⟨rfl, rfl⟩ _ _)
    | refine wb ?_ | refine wr ?_ | refine wk ?_ | refine we ?_ | refine ws ?_ | refine wq ?_
    | (refine wc rfl (fun hc => ?_) (fun hc => ?_) <;> (try simp at hc) <;> (try omega))
    | (refine ib (fun hc => ?_) (fun hc => ?_) <;> (try omega) <;> (try simp (disch := omega) only [if_pos, if_neg])))
      all_goals simp [AThen, APost, ares, aresL, ares1, h7]
end Go.Stx
