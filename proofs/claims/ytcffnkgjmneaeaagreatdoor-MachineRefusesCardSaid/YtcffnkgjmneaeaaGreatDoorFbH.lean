/-
  The document's check of a program.
-/
import Derived.Test.YtcffnkgjmneaeaaGreatDoorFbG
namespace Go.Stx
open Go Go.Proofs
attribute [local irreducible] AWP LWalk ACall ARounds lops nops
set_option linter.unusedVariables false
set_option linter.unusedSimpArgs false
set_option linter.unusedSectionVars false
set_option maxRecDepth 20000
variable [Gl]

theorem AW.le.upd (A : AW) (o : AObj) (o' : Option AObj) : A.le ((A.alloc o).set A.next o') := by
  refine ⟨by simp, fun i hi => ?_⟩
  have h1 : ¬ i = A.next := by omega
  have h2 : ¬ A.next = i := by omega
  simp [AW.get_set, AW.get_alloc, h1, h2]

def errV (x : Nat × Int) : Value := .tuple #[.int .i64 x.1, .int .i64 x.2]

theorem insPlace_7 {x : InsV} (h : insErr x = 0) (h7 : x.op = 7) : insPlace x = 2 := by
  unfold insPlace
  rw [if_pos h, if_neg (by omega), if_pos (by omega)]
theorem insPlace_8 {x : InsV} (h : insErr x = 0) (h7 : x.op = 8) : insPlace x = 1 := by
  unfold insPlace
  rw [if_pos h, if_pos (by omega)]

set_option maxHeartbeats 8000000 in
theorem refCheck_call (hn : Gl.N = 4) (v : Value) (p : List InsV) (A : AW) (h : IsIns A v p) :
    ACall Tryz.prog 31 [v] A (fun u A' => u = errV (refCheck p) ∧ A = A') := by
  refine ACall.gc0 (V := errV (refCheck p)) (VBelow.tuple (by simp)) (fun hw => ?_) (by kernel_rfl)
  refine acall_intro Tryz.func31 rfl (by kernel_rfl) fun _ => ?_
  obtain ⟨o, c, rfl, _⟩ := h.form
  by_cases hL : 64 < p.length
  · have he : refCheck p = (0, 3) := by unfold refCheck; rw [if_pos hL]
    rw [he]
    repeat' (first
    | (refine lwc fun R hR => ?_; simp [wrap_i64, wrap_u64, hL]; try simp (disch := omega) only [if_pos, if_neg, wrap_i64, wrap_u64])
    | (refine hR _ _ ?_; clear hR R) | (refine hK _ _ ?_; clear hK K) | refine lwn ?_ | refine lr ?_ | refine la ?_
    | refine wn fun K hK => ?_
    | simp only [wS]
    | refine wb ?_ | refine wr ?_ | refine wk ?_ | refine we ?_ | refine ws ?_ | refine wq ?_
    | (refine wc rfl (fun hc => ?_) (fun hc => ?_) <;> (try simp at hc) <;> (try omega))
    | (refine ib (fun hc => ?_) (fun hc => ?_) <;> (try omega) <;> (try simp (disch := omega) only [if_pos, if_neg])))
    all_goals first | exact AW.le.refl A | (simp [AThen, APost, ares, aresL, ares1, errV] <;> exact AW.le.refl A)
  have hl : p.length < 2^30 := by omega
  have he : refCheck p = checkGo (fun k _ n => refReach p k (k + 1 + n.toNat)) (p.drop 0) 0 none := by unfold refCheck; rw [if_neg hL]; rfl
  generalize htgt : (fun (k : Nat) (_ : Option Nat) (n : Int) => refReach p k (k + 1 + n.toNat)) = tgt at he
  have htg : ∀ k b n, tgt k b n = refReach p k (k + 1 + n.toNat) := by subst htgt; exact fun _ _ _ => rfl
  generalize refCheck p = R at he ⊢
  repeat' (first
  | (refine lwc fun R hR => ?_; simp [wrap_i64, wrap_u64, hL]; try simp (disch := omega) only [if_pos, if_neg, wrap_i64, wrap_u64])
  | (refine hR _ _ ?_; clear hR R) | (refine hK _ _ ?_; clear hK K) | refine lwn ?_ | refine lr ?_ | refine la ?_
  | refine wn fun K hK => ?_
  | simp only [wS]
  | refine wb ?_ | refine wr ?_ | refine wk ?_ | refine we ?_ | refine ws ?_ | refine wq ?_
  | (refine wc rfl (fun hc => ?_) (fun hc => ?_) <;> (try simp at hc) <;> (try omega))
  | (refine ib (fun hc => ?_) (fun hc => ?_) <;> (try omega) <;> (try simp (disch := omega) only [if_pos, if_neg])))
  refine awp_loop (fun k fr A' => A.le A' ∧ ∃ (i : Nat) (b : Option Nat), k = p.length - i ∧ i ≤ p.length ∧ (∀ d, b = some d → d < i) ∧ fr 0 = .slice o p.length c ∧ fr 4 = .int .i64 (optI b) ∧ fr 5 = .int .i64 i ∧
    R = checkGo tgt (p.drop i) i b) p.length ?_ ?_
  · exact ⟨AW.le.refl A, 0, none, rfl, Nat.zero_le _, by simp, rfl, rfl, rfl, he⟩
  · rintro k fr A' ⟨hle', i, b, rfl, hi, hbi, h0, h4, h5, he⟩
    by_cases hlt : i < p.length
    · obtain ⟨q, row, hq', hrow, hle, hcell⟩ := (h.le hle' hw).at hlt
      subst hq'
      have hwi : IntKind.i64.wrap ((i : Int) + 1) = ((i + 1 : Nat) : Int) := wrap_i64 (by omega) (by omega)
      have hdr : p.drop i = p[i] :: p.drop (i + 1) := List.drop_eq_getElem_cons hlt
      rw [hdr] at he
      generalize p[i] = x at he hcell
      clear hdr
      have cI := fun B => refIns_call hn x B
      have cP := fun B => refPlace_call hn x B
      have cS := fun B => refSkips_call hn x B
      have cR := fun (t : Nat) o o' => reaches_call _ p i t _ (h.le (hle'.trans (AW.le.upd A' o o')) hw) hl (by omega)
      have x7 := insPlace_7 (x := x)
      have x8 := insPlace_8 (x := x)
      have hcell0 := ins_op hcell
      unfold checkGo at he
      generalize hE : oneE tgt i b x = E at he
      generalize hN : nextB i b x = N at he
      unfold oneE at hE
      unfold nextB at hN
      obtain ⟨op, a, b', c', imm⟩ := x
      simp only at hE hN x7 x8 hcell0
      generalize insPlace ⟨op, a, b', c', imm⟩ = pl at hE cP x7 x8
      have hsk := @skips_some ⟨op, a, b', c', imm⟩
      generalize insSkips ⟨op, a, b', c', imm⟩ = sk at hE cS hsk
      have himm := @insErr_imm ⟨op, a, b', c', imm⟩
      simp only at hsk himm
      generalize insErr ⟨op, a, b', c', imm⟩ = e at hE cI x7 x8 hsk himm
      simp only [insCells] at hcell cI cP cS
      have he4 : p.length - i = (p.length - (i + 1)) + 1 := by omega
      by_cases e0 : e = 0
      rotate_left
      · rw [if_neg e0] at hE; subst hE; rw [if_neg e0] at he
        refine awp_seq ?_
        repeat' (first
        | (refine lwc fun R hR => ?_; simp [wrap_i64, wrap_u64, h0, h4, h5, hrow, hcell0, hcell, hle, hlt, hwi, AW.row_get, astore, optI, e0]; try simp (disch := omega) only [if_pos, if_neg, wrap_i64, wrap_u64])
        | (refine hR _ _ ?_; clear hR R) | (refine hK _ _ ?_; clear hK K) | refine lwn ?_ | refine lr ?_ | refine la ?_
        | refine wn fun K hK => ?_
        | simp only [wS]
        | (refine callK (cI _) ?_; rintro _ _ ⟨rfl, rfl⟩ _ _)
        | refine wb ?_ | refine wr ?_ | refine wk ?_ | refine we ?_ | refine ws ?_ | refine wq ?_
        | (refine wc rfl (fun hc => ?_) (fun hc => ?_) <;> (try simp at hc) <;> (try omega))
        | (refine ib (fun hc => ?_) (fun hc => ?_) <;> (try omega) <;> (try simp (disch := omega) only [if_pos, if_neg])))
        all_goals first | exact hle'.trans (AW.le.upd A' _ _) | (simp [ABlock, AThen, APost, ares, aresL, ares1, errV, he] <;> exact hle'.trans (AW.le.upd A' _ _))
      subst e0
      rw [if_pos rfl] at hE
      cases b with
      | none =>
        simp only [optI] at h4
        by_cases ob : op = 8
        · subst ob
          rw [if_pos (by simp)] at hE; subst hE; rw [if_neg (by decide)] at he
          refine awp_seq ?_
          repeat' (first
          | (refine lwc fun R hR => ?_; simp [wrap_i64, wrap_u64, h0, h4, h5, hrow, hcell0, hcell, hle, hlt, hwi, AW.row_get, astore, optI]; try simp (disch := omega) only [if_pos, if_neg, wrap_i64, wrap_u64])
          | (refine hR _ _ ?_; clear hR R) | (refine hK _ _ ?_; clear hK K) | refine lwn ?_ | refine lr ?_ | refine la ?_
          | refine wn fun K hK => ?_
          | simp only [wS]
          | (refine callK (cI _) ?_; rintro _ _ ⟨rfl, rfl⟩ _ _)
          | (refine callK (cP _) ?_; rintro _ _ ⟨rfl, rfl⟩ _ _)
          | (refine callK (cS _) ?_; rintro _ _ ⟨rfl, rfl⟩ _ _)
          | refine wb ?_ | refine wr ?_ | refine wk ?_ | refine we ?_ | refine ws ?_ | refine wq ?_
          | (refine wc rfl (fun hc => ?_) (fun hc => ?_) <;> (try simp at hc) <;> (try omega))
          | (refine ib (fun hc => ?_) (fun hc => ?_) <;> (try omega) <;> (try simp (disch := omega) only [if_pos, if_neg])))
          all_goals first | exact hle'.trans (AW.le.upd A' _ _) | (simp [ABlock, AThen, APost, ares, aresL, ares1, errV, he] <;> exact hle'.trans (AW.le.upd A' _ _))
        rw [if_neg (by simp [ob])] at hE
        by_cases pb : pl = 1
        · subst pb
          rw [if_pos (by simp)] at hE; subst hE; rw [if_neg (by decide)] at he
          by_cases oo : op = 7
          · subst oo
            refine awp_seq ?_
            repeat' (first
            | (refine lwc fun R hR => ?_; simp [wrap_i64, wrap_u64, h0, h4, h5, hrow, hcell0, hcell, hle, hlt, hwi, AW.row_get, astore, optI, ob]; try simp (disch := omega) only [if_pos, if_neg, wrap_i64, wrap_u64])
            | (refine hR _ _ ?_; clear hR R) | (refine hK _ _ ?_; clear hK K) | refine lwn ?_ | refine lr ?_ | refine la ?_
            | refine wn fun K hK => ?_
            | simp only [wS]
            | (refine callK (cI _) ?_; rintro _ _ ⟨rfl, rfl⟩ _ _)
            | (refine callK (cP _) ?_; rintro _ _ ⟨rfl, rfl⟩ _ _)
            | (refine callK (cS _) ?_; rintro _ _ ⟨rfl, rfl⟩ _ _)
            | refine wb ?_ | refine wr ?_ | refine wk ?_ | refine we ?_ | refine ws ?_ | refine wq ?_
            | (refine wc rfl (fun hc => ?_) (fun hc => ?_) <;> (try simp at hc) <;> (try omega))
            | (refine ib (fun hc => ?_) (fun hc => ?_) <;> (try omega) <;> (try simp (disch := omega) only [if_pos, if_neg])))
            all_goals first | exact hle'.trans (AW.le.upd A' _ _) | (simp [ABlock, AThen, APost, ares, aresL, ares1, errV, he] <;> exact hle'.trans (AW.le.upd A' _ _))
          · skip
            refine awp_seq ?_
            repeat' (first
            | (refine lwc fun R hR => ?_; simp [wrap_i64, wrap_u64, h0, h4, h5, hrow, hcell0, hcell, hle, hlt, hwi, AW.row_get, astore, optI, ob, oo]; try simp (disch := omega) only [if_pos, if_neg, wrap_i64, wrap_u64])
            | (refine hR _ _ ?_; clear hR R) | (refine hK _ _ ?_; clear hK K) | refine lwn ?_ | refine lr ?_ | refine la ?_
            | refine wn fun K hK => ?_
            | simp only [wS]
            | (refine callK (cI _) ?_; rintro _ _ ⟨rfl, rfl⟩ _ _)
            | (refine callK (cP _) ?_; rintro _ _ ⟨rfl, rfl⟩ _ _)
            | (refine callK (cS _) ?_; rintro _ _ ⟨rfl, rfl⟩ _ _)
            | refine wb ?_ | refine wr ?_ | refine wk ?_ | refine we ?_ | refine ws ?_ | refine wq ?_
            | (refine wc rfl (fun hc => ?_) (fun hc => ?_) <;> (try simp at hc) <;> (try omega))
            | (refine ib (fun hc => ?_) (fun hc => ?_) <;> (try omega) <;> (try simp (disch := omega) only [if_pos, if_neg])))
            all_goals first | exact hle'.trans (AW.le.upd A' _ _) | (simp [ABlock, AThen, APost, ares, aresL, ares1, errV, he] <;> exact hle'.trans (AW.le.upd A' _ _))
        rw [if_neg (by simp [pb])] at hE
        cases sk with
        | some n =>
          obtain ⟨rfl, -, hop⟩ := hsk rfl
          obtain ⟨hn0, hn1⟩ := himm rfl hop
          obtain ⟨m, hm⟩ : ∃ m : Nat, n = m := ⟨n.toNat, by omega⟩
          subst hm
          have hwt : IntKind.i64.wrap (((i + 1 : Nat) : Int) + m) = ((i + 1 + m : Nat) : Int) := wrap_i64 (by omega) (by omega)
          have hwt2 : IntKind.i64.wrap ((i : Int) + 1 + m) = ((i + 1 + m : Nat) : Int) := wrap_i64 (by omega) (by omega)
          have cR1 := cR (i + 1 + m)
          simp only [htg, Int.toNat_natCast] at hE
          have o7 : ¬ op = 7 := by omega
          have o8 : ¬ op = 8 := by omega
          generalize refReach p i (i + 1 + m) = r at hE cR1
          by_cases po : pl = 2
          · subst po
            cases r with
            | false =>
              simp only [Bool.false_eq_true, if_false] at hE
              subst hE; rw [if_neg (by decide)] at he
              refine awp_seq ?_
              repeat' (first
              | (refine lwc fun R hR => ?_; simp [wrap_i64, wrap_u64, h0, h4, h5, hrow, hcell0, hcell, hle, hlt, hwi, AW.row_get, astore, optI, o7, o8, hwt, hwt2]; try simp (disch := omega) only [if_pos, if_neg, wrap_i64, wrap_u64])
              | (refine hR _ _ ?_; clear hR R) | (refine hK _ _ ?_; clear hK K) | refine lwn ?_ | refine lr ?_ | refine la ?_
              | refine wn fun K hK => ?_
              | simp only [wS]
              | (refine callK (cI _) ?_; rintro _ _ ⟨rfl, rfl⟩ _ _)
              | (refine callK (cP _) ?_; rintro _ _ ⟨rfl, rfl⟩ _ _)
              | (refine callK (cS _) ?_; rintro _ _ ⟨rfl, rfl⟩ _ _)
              | (refine callK (cR1 _ _) ?_; rintro _ _ ⟨rfl, rfl⟩ _ _)
              | refine wb ?_ | refine wr ?_ | refine wk ?_ | refine we ?_ | refine ws ?_ | refine wq ?_
              | (refine wc rfl (fun hc => ?_) (fun hc => ?_) <;> (try simp at hc) <;> (try omega))
              | (refine ib (fun hc => ?_) (fun hc => ?_) <;> (try omega) <;> (try simp (disch := omega) only [if_pos, if_neg])))
              all_goals first | exact hle'.trans (AW.le.upd A' _ _) | (simp [ABlock, AThen, APost, ares, aresL, ares1, errV, he] <;> exact hle'.trans (AW.le.upd A' _ _))
            | true =>
              simp only [if_true] at hE; rw [if_neg o7, if_neg o8] at hN; subst hE; subst hN; rw [if_pos rfl] at he
              refine awp_seq ?_
              repeat' (first
              | (refine lwc fun R hR => ?_; simp [wrap_i64, wrap_u64, h0, h4, h5, hrow, hcell0, hcell, hle, hlt, hwi, AW.row_get, astore, optI, o7, o8, hwt, hwt2]; try simp (disch := omega) only [if_pos, if_neg, wrap_i64, wrap_u64])
              | (refine hR _ _ ?_; clear hR R) | (refine hK _ _ ?_; clear hK K) | refine lwn ?_ | refine lr ?_ | refine la ?_
              | refine wn fun K hK => ?_
              | simp only [wS]
              | (refine callK (cI _) ?_; rintro _ _ ⟨rfl, rfl⟩ _ _)
              | (refine callK (cP _) ?_; rintro _ _ ⟨rfl, rfl⟩ _ _)
              | (refine callK (cS _) ?_; rintro _ _ ⟨rfl, rfl⟩ _ _)
              | (refine callK (cR1 _ _) ?_; rintro _ _ ⟨rfl, rfl⟩ _ _)
              | refine wb ?_ | refine wr ?_ | refine wk ?_ | refine we ?_ | refine ws ?_ | refine wq ?_
              | (refine wc rfl (fun hc => ?_) (fun hc => ?_) <;> (try simp at hc) <;> (try omega))
              | (refine ib (fun hc => ?_) (fun hc => ?_) <;> (try omega) <;> (try simp (disch := omega) only [if_pos, if_neg])))
              refine ⟨p.length - (i + 1), by omega, hle'.trans (AW.le.upd A' _ _), i + 1, none, rfl, by omega, ?_, ?_, ?_, ?_, he⟩ <;> simp [h0, h4, h5, optI] <;> first | omega | (intro d hd; have := hbi d hd; omega) | (have := hbi; simp at this; omega)
          · skip
            cases r with
            | false =>
              simp only [Bool.false_eq_true, if_false] at hE
              subst hE; rw [if_neg (by decide)] at he
              refine awp_seq ?_
              repeat' (first
              | (refine lwc fun R hR => ?_; simp [wrap_i64, wrap_u64, h0, h4, h5, hrow, hcell0, hcell, hle, hlt, hwi, AW.row_get, astore, optI, o7, o8, hwt, hwt2, pb, po]; try simp (disch := omega) only [if_pos, if_neg, wrap_i64, wrap_u64])
              | (refine hR _ _ ?_; clear hR R) | (refine hK _ _ ?_; clear hK K) | refine lwn ?_ | refine lr ?_ | refine la ?_
              | refine wn fun K hK => ?_
              | simp only [wS]
              | (refine callK (cI _) ?_; rintro _ _ ⟨rfl, rfl⟩ _ _)
              | (refine callK (cP _) ?_; rintro _ _ ⟨rfl, rfl⟩ _ _)
              | (refine callK (cS _) ?_; rintro _ _ ⟨rfl, rfl⟩ _ _)
              | (refine callK (cR1 _ _) ?_; rintro _ _ ⟨rfl, rfl⟩ _ _)
              | refine wb ?_ | refine wr ?_ | refine wk ?_ | refine we ?_ | refine ws ?_ | refine wq ?_
              | (refine wc rfl (fun hc => ?_) (fun hc => ?_) <;> (try simp at hc) <;> (try omega))
              | (refine ib (fun hc => ?_) (fun hc => ?_) <;> (try omega) <;> (try simp (disch := omega) only [if_pos, if_neg])))
              all_goals first | exact hle'.trans (AW.le.upd A' _ _) | (simp [ABlock, AThen, APost, ares, aresL, ares1, errV, he] <;> exact hle'.trans (AW.le.upd A' _ _))
            | true =>
              simp only [if_true] at hE; rw [if_neg o7, if_neg o8] at hN; subst hE; subst hN; rw [if_pos rfl] at he
              refine awp_seq ?_
              repeat' (first
              | (refine lwc fun R hR => ?_; simp [wrap_i64, wrap_u64, h0, h4, h5, hrow, hcell0, hcell, hle, hlt, hwi, AW.row_get, astore, optI, o7, o8, hwt, hwt2, pb, po]; try simp (disch := omega) only [if_pos, if_neg, wrap_i64, wrap_u64])
              | (refine hR _ _ ?_; clear hR R) | (refine hK _ _ ?_; clear hK K) | refine lwn ?_ | refine lr ?_ | refine la ?_
              | refine wn fun K hK => ?_
              | simp only [wS]
              | (refine callK (cI _) ?_; rintro _ _ ⟨rfl, rfl⟩ _ _)
              | (refine callK (cP _) ?_; rintro _ _ ⟨rfl, rfl⟩ _ _)
              | (refine callK (cS _) ?_; rintro _ _ ⟨rfl, rfl⟩ _ _)
              | (refine callK (cR1 _ _) ?_; rintro _ _ ⟨rfl, rfl⟩ _ _)
              | refine wb ?_ | refine wr ?_ | refine wk ?_ | refine we ?_ | refine ws ?_ | refine wq ?_
              | (refine wc rfl (fun hc => ?_) (fun hc => ?_) <;> (try simp at hc) <;> (try omega))
              | (refine ib (fun hc => ?_) (fun hc => ?_) <;> (try omega) <;> (try simp (disch := omega) only [if_pos, if_neg])))
              refine ⟨p.length - (i + 1), by omega, hle'.trans (AW.le.upd A' _ _), i + 1, none, rfl, by omega, ?_, ?_, ?_, ?_, he⟩ <;> simp [h0, h4, h5, optI] <;> first | omega | (intro d hd; have := hbi d hd; omega) | (have := hbi; simp at this; omega)
        | none =>
          simp only at hE; subst hE; rw [if_pos rfl] at he
          by_cases oo : op = 7
          · have po := x7 rfl oo
            subst po
            subst oo
            rw [if_pos rfl] at hN; subst hN
            refine awp_seq ?_
            repeat' (first
            | (refine lwc fun R hR => ?_; simp [wrap_i64, wrap_u64, h0, h4, h5, hrow, hcell0, hcell, hle, hlt, hwi, AW.row_get, astore, optI, ob]; try simp (disch := omega) only [if_pos, if_neg, wrap_i64, wrap_u64])
            | (refine hR _ _ ?_; clear hR R) | (refine hK _ _ ?_; clear hK K) | refine lwn ?_ | refine lr ?_ | refine la ?_
            | refine wn fun K hK => ?_
            | simp only [wS]
            | (refine callK (cI _) ?_; rintro _ _ ⟨rfl, rfl⟩ _ _)
            | (refine callK (cP _) ?_; rintro _ _ ⟨rfl, rfl⟩ _ _)
            | (refine callK (cS _) ?_; rintro _ _ ⟨rfl, rfl⟩ _ _)
            | refine wb ?_ | refine wr ?_ | refine wk ?_ | refine we ?_ | refine ws ?_ | refine wq ?_
            | (refine wc rfl (fun hc => ?_) (fun hc => ?_) <;> (try simp at hc) <;> (try omega))
            | (refine ib (fun hc => ?_) (fun hc => ?_) <;> (try omega) <;> (try simp (disch := omega) only [if_pos, if_neg])))
            refine ⟨p.length - (i + 1), by omega, hle'.trans (AW.le.upd A' _ _), i + 1, some i, rfl, by omega, ?_, ?_, ?_, ?_, he⟩ <;> simp [h0, h4, h5, optI] <;> first | omega | (intro d hd; have := hbi d hd; omega) | (have := hbi; simp at this; omega)
          rw [if_neg oo, if_neg ob] at hN; subst hN
          by_cases po : pl = 2
          · subst po
            refine awp_seq ?_
            repeat' (first
            | (refine lwc fun R hR => ?_; simp [wrap_i64, wrap_u64, h0, h4, h5, hrow, hcell0, hcell, hle, hlt, hwi, AW.row_get, astore, optI, ob, oo]; try simp (disch := omega) only [if_pos, if_neg, wrap_i64, wrap_u64])
            | (refine hR _ _ ?_; clear hR R) | (refine hK _ _ ?_; clear hK K) | refine lwn ?_ | refine lr ?_ | refine la ?_
            | refine wn fun K hK => ?_
            | simp only [wS]
            | (refine callK (cI _) ?_; rintro _ _ ⟨rfl, rfl⟩ _ _)
            | (refine callK (cP _) ?_; rintro _ _ ⟨rfl, rfl⟩ _ _)
            | (refine callK (cS _) ?_; rintro _ _ ⟨rfl, rfl⟩ _ _)
            | refine wb ?_ | refine wr ?_ | refine wk ?_ | refine we ?_ | refine ws ?_ | refine wq ?_
            | (refine wc rfl (fun hc => ?_) (fun hc => ?_) <;> (try simp at hc) <;> (try omega))
            | (refine ib (fun hc => ?_) (fun hc => ?_) <;> (try omega) <;> (try simp (disch := omega) only [if_pos, if_neg])))
            refine ⟨p.length - (i + 1), by omega, hle'.trans (AW.le.upd A' _ _), i + 1, none, rfl, by omega, ?_, ?_, ?_, ?_, he⟩ <;> simp [h0, h4, h5, optI] <;> first | omega | (intro d hd; have := hbi d hd; omega) | (have := hbi; simp at this; omega)
          · skip
            refine awp_seq ?_
            repeat' (first
            | (refine lwc fun R hR => ?_; simp [wrap_i64, wrap_u64, h0, h4, h5, hrow, hcell0, hcell, hle, hlt, hwi, AW.row_get, astore, optI, ob, oo, pb, po]; try simp (disch := omega) only [if_pos, if_neg, wrap_i64, wrap_u64])
            | (refine hR _ _ ?_; clear hR R) | (refine hK _ _ ?_; clear hK K) | refine lwn ?_ | refine lr ?_ | refine la ?_
            | refine wn fun K hK => ?_
            | simp only [wS]
            | (refine callK (cI _) ?_; rintro _ _ ⟨rfl, rfl⟩ _ _)
            | (refine callK (cP _) ?_; rintro _ _ ⟨rfl, rfl⟩ _ _)
            | (refine callK (cS _) ?_; rintro _ _ ⟨rfl, rfl⟩ _ _)
            | refine wb ?_ | refine wr ?_ | refine wk ?_ | refine we ?_ | refine ws ?_ | refine wq ?_
            | (refine wc rfl (fun hc => ?_) (fun hc => ?_) <;> (try simp at hc) <;> (try omega))
            | (refine ib (fun hc => ?_) (fun hc => ?_) <;> (try omega) <;> (try simp (disch := omega) only [if_pos, if_neg])))
            refine ⟨p.length - (i + 1), by omega, hle'.trans (AW.le.upd A' _ _), i + 1, none, rfl, by omega, ?_, ?_, ?_, ?_, he⟩ <;> simp [h0, h4, h5, optI] <;> first | omega | (intro d hd; have := hbi d hd; omega) | (have := hbi; simp at this; omega)
      | some d =>
        simp only [optI] at h4
        have hd0 : ¬ ((d : Int) < 0) := by omega
        have hd1 : (0 : Int) ≤ d := by omega
        have hdi := hbi d rfl
        by_cases ob : op = 7
        · subst ob
          rw [if_pos (by simp)] at hE; subst hE; rw [if_neg (by decide)] at he
          refine awp_seq ?_
          repeat' (first
          | (refine lwc fun R hR => ?_; simp [wrap_i64, wrap_u64, h0, h4, h5, hrow, hcell0, hcell, hle, hlt, hwi, AW.row_get, astore, optI, hd0, hd1]; try simp (disch := omega) only [if_pos, if_neg, wrap_i64, wrap_u64])
          | (refine hR _ _ ?_; clear hR R) | (refine hK _ _ ?_; clear hK K) | refine lwn ?_ | refine lr ?_ | refine la ?_
          | refine wn fun K hK => ?_
          | simp only [wS]
          | (refine callK (cI _) ?_; rintro _ _ ⟨rfl, rfl⟩ _ _)
          | (refine callK (cP _) ?_; rintro _ _ ⟨rfl, rfl⟩ _ _)
          | (refine callK (cS _) ?_; rintro _ _ ⟨rfl, rfl⟩ _ _)
          | refine wb ?_ | refine wr ?_ | refine wk ?_ | refine we ?_ | refine ws ?_ | refine wq ?_
          | (refine wc rfl (fun hc => ?_) (fun hc => ?_) <;> (try simp at hc) <;> (try omega))
          | (refine ib (fun hc => ?_) (fun hc => ?_) <;> (try omega) <;> (try simp (disch := omega) only [if_pos, if_neg])))
          all_goals first | exact hle'.trans (AW.le.upd A' _ _) | (simp [ABlock, AThen, APost, ares, aresL, ares1, errV, he] <;> exact hle'.trans (AW.le.upd A' _ _))
        rw [if_neg (by simp [ob])] at hE
        by_cases pb : pl = 2
        · subst pb
          rw [if_pos (by simp)] at hE; subst hE; rw [if_neg (by decide)] at he
          by_cases oo : op = 8
          · subst oo
            refine awp_seq ?_
            repeat' (first
            | (refine lwc fun R hR => ?_; simp [wrap_i64, wrap_u64, h0, h4, h5, hrow, hcell0, hcell, hle, hlt, hwi, AW.row_get, astore, optI, ob, hd0, hd1]; try simp (disch := omega) only [if_pos, if_neg, wrap_i64, wrap_u64])
            | (refine hR _ _ ?_; clear hR R) | (refine hK _ _ ?_; clear hK K) | refine lwn ?_ | refine lr ?_ | refine la ?_
            | refine wn fun K hK => ?_
            | simp only [wS]
            | (refine callK (cI _) ?_; rintro _ _ ⟨rfl, rfl⟩ _ _)
            | (refine callK (cP _) ?_; rintro _ _ ⟨rfl, rfl⟩ _ _)
            | (refine callK (cS _) ?_; rintro _ _ ⟨rfl, rfl⟩ _ _)
            | refine wb ?_ | refine wr ?_ | refine wk ?_ | refine we ?_ | refine ws ?_ | refine wq ?_
            | (refine wc rfl (fun hc => ?_) (fun hc => ?_) <;> (try simp at hc) <;> (try omega))
            | (refine ib (fun hc => ?_) (fun hc => ?_) <;> (try omega) <;> (try simp (disch := omega) only [if_pos, if_neg])))
            all_goals first | exact hle'.trans (AW.le.upd A' _ _) | (simp [ABlock, AThen, APost, ares, aresL, ares1, errV, he] <;> exact hle'.trans (AW.le.upd A' _ _))
          · skip
            refine awp_seq ?_
            repeat' (first
            | (refine lwc fun R hR => ?_; simp [wrap_i64, wrap_u64, h0, h4, h5, hrow, hcell0, hcell, hle, hlt, hwi, AW.row_get, astore, optI, ob, oo, hd0, hd1]; try simp (disch := omega) only [if_pos, if_neg, wrap_i64, wrap_u64])
            | (refine hR _ _ ?_; clear hR R) | (refine hK _ _ ?_; clear hK K) | refine lwn ?_ | refine lr ?_ | refine la ?_
            | refine wn fun K hK => ?_
            | simp only [wS]
            | (refine callK (cI _) ?_; rintro _ _ ⟨rfl, rfl⟩ _ _)
            | (refine callK (cP _) ?_; rintro _ _ ⟨rfl, rfl⟩ _ _)
            | (refine callK (cS _) ?_; rintro _ _ ⟨rfl, rfl⟩ _ _)
            | refine wb ?_ | refine wr ?_ | refine wk ?_ | refine we ?_ | refine ws ?_ | refine wq ?_
            | (refine wc rfl (fun hc => ?_) (fun hc => ?_) <;> (try simp at hc) <;> (try omega))
            | (refine ib (fun hc => ?_) (fun hc => ?_) <;> (try omega) <;> (try simp (disch := omega) only [if_pos, if_neg])))
            all_goals first | exact hle'.trans (AW.le.upd A' _ _) | (simp [ABlock, AThen, APost, ares, aresL, ares1, errV, he] <;> exact hle'.trans (AW.le.upd A' _ _))
        rw [if_neg (by simp [pb])] at hE
        cases sk with
        | some n =>
          obtain ⟨rfl, -, hop⟩ := hsk rfl
          obtain ⟨hn0, hn1⟩ := himm rfl hop
          obtain ⟨m, hm⟩ : ∃ m : Nat, n = m := ⟨n.toNat, by omega⟩
          subst hm
          have hwt : IntKind.i64.wrap (((i + 1 : Nat) : Int) + m) = ((i + 1 + m : Nat) : Int) := wrap_i64 (by omega) (by omega)
          have hwt2 : IntKind.i64.wrap ((i : Int) + 1 + m) = ((i + 1 + m : Nat) : Int) := wrap_i64 (by omega) (by omega)
          have cR1 := cR (i + 1 + m)
          simp only [htg, Int.toNat_natCast] at hE
          have o7 : ¬ op = 7 := by omega
          have o8 : ¬ op = 8 := by omega
          generalize refReach p i (i + 1 + m) = r at hE cR1
          by_cases po : pl = 1
          · subst po
            cases r with
            | false =>
              simp only [Bool.false_eq_true, if_false] at hE
              subst hE; rw [if_neg (by decide)] at he
              refine awp_seq ?_
              repeat' (first
              | (refine lwc fun R hR => ?_; simp [wrap_i64, wrap_u64, h0, h4, h5, hrow, hcell0, hcell, hle, hlt, hwi, AW.row_get, astore, optI, o7, o8, hwt, hwt2, hd0, hd1]; try simp (disch := omega) only [if_pos, if_neg, wrap_i64, wrap_u64])
              | (refine hR _ _ ?_; clear hR R) | (refine hK _ _ ?_; clear hK K) | refine lwn ?_ | refine lr ?_ | refine la ?_
              | refine wn fun K hK => ?_
              | simp only [wS]
              | (refine callK (cI _) ?_; rintro _ _ ⟨rfl, rfl⟩ _ _)
              | (refine callK (cP _) ?_; rintro _ _ ⟨rfl, rfl⟩ _ _)
              | (refine callK (cS _) ?_; rintro _ _ ⟨rfl, rfl⟩ _ _)
              | (refine callK (cR1 _ _) ?_; rintro _ _ ⟨rfl, rfl⟩ _ _)
              | refine wb ?_ | refine wr ?_ | refine wk ?_ | refine we ?_ | refine ws ?_ | refine wq ?_
              | (refine wc rfl (fun hc => ?_) (fun hc => ?_) <;> (try simp at hc) <;> (try omega))
              | (refine ib (fun hc => ?_) (fun hc => ?_) <;> (try omega) <;> (try simp (disch := omega) only [if_pos, if_neg])))
              all_goals first | exact hle'.trans (AW.le.upd A' _ _) | (simp [ABlock, AThen, APost, ares, aresL, ares1, errV, he] <;> exact hle'.trans (AW.le.upd A' _ _))
            | true =>
              simp only [if_true] at hE; rw [if_neg o7, if_neg o8] at hN; subst hE; subst hN; rw [if_pos rfl] at he
              refine awp_seq ?_
              repeat' (first
              | (refine lwc fun R hR => ?_; simp [wrap_i64, wrap_u64, h0, h4, h5, hrow, hcell0, hcell, hle, hlt, hwi, AW.row_get, astore, optI, o7, o8, hwt, hwt2, hd0, hd1]; try simp (disch := omega) only [if_pos, if_neg, wrap_i64, wrap_u64])
              | (refine hR _ _ ?_; clear hR R) | (refine hK _ _ ?_; clear hK K) | refine lwn ?_ | refine lr ?_ | refine la ?_
              | refine wn fun K hK => ?_
              | simp only [wS]
              | (refine callK (cI _) ?_; rintro _ _ ⟨rfl, rfl⟩ _ _)
              | (refine callK (cP _) ?_; rintro _ _ ⟨rfl, rfl⟩ _ _)
              | (refine callK (cS _) ?_; rintro _ _ ⟨rfl, rfl⟩ _ _)
              | (refine callK (cR1 _ _) ?_; rintro _ _ ⟨rfl, rfl⟩ _ _)
              | refine wb ?_ | refine wr ?_ | refine wk ?_ | refine we ?_ | refine ws ?_ | refine wq ?_
              | (refine wc rfl (fun hc => ?_) (fun hc => ?_) <;> (try simp at hc) <;> (try omega))
              | (refine ib (fun hc => ?_) (fun hc => ?_) <;> (try omega) <;> (try simp (disch := omega) only [if_pos, if_neg])))
              refine ⟨p.length - (i + 1), by omega, hle'.trans (AW.le.upd A' _ _), i + 1, some d, rfl, by omega, ?_, ?_, ?_, ?_, he⟩ <;> simp [h0, h4, h5, optI] <;> first | omega | (intro d hd; have := hbi d hd; omega) | (have := hbi; simp at this; omega)
          · skip
            cases r with
            | false =>
              simp only [Bool.false_eq_true, if_false] at hE
              subst hE; rw [if_neg (by decide)] at he
              refine awp_seq ?_
              repeat' (first
              | (refine lwc fun R hR => ?_; simp [wrap_i64, wrap_u64, h0, h4, h5, hrow, hcell0, hcell, hle, hlt, hwi, AW.row_get, astore, optI, o7, o8, hwt, hwt2, hd0, hd1, pb, po]; try simp (disch := omega) only [if_pos, if_neg, wrap_i64, wrap_u64])
              | (refine hR _ _ ?_; clear hR R) | (refine hK _ _ ?_; clear hK K) | refine lwn ?_ | refine lr ?_ | refine la ?_
              | refine wn fun K hK => ?_
              | simp only [wS]
              | (refine callK (cI _) ?_; rintro _ _ ⟨rfl, rfl⟩ _ _)
              | (refine callK (cP _) ?_; rintro _ _ ⟨rfl, rfl⟩ _ _)
              | (refine callK (cS _) ?_; rintro _ _ ⟨rfl, rfl⟩ _ _)
              | (refine callK (cR1 _ _) ?_; rintro _ _ ⟨rfl, rfl⟩ _ _)
              | refine wb ?_ | refine wr ?_ | refine wk ?_ | refine we ?_ | refine ws ?_ | refine wq ?_
              | (refine wc rfl (fun hc => ?_) (fun hc => ?_) <;> (try simp at hc) <;> (try omega))
              | (refine ib (fun hc => ?_) (fun hc => ?_) <;> (try omega) <;> (try simp (disch := omega) only [if_pos, if_neg])))
              all_goals first | exact hle'.trans (AW.le.upd A' _ _) | (simp [ABlock, AThen, APost, ares, aresL, ares1, errV, he] <;> exact hle'.trans (AW.le.upd A' _ _))
            | true =>
              simp only [if_true] at hE; rw [if_neg o7, if_neg o8] at hN; subst hE; subst hN; rw [if_pos rfl] at he
              refine awp_seq ?_
              repeat' (first
              | (refine lwc fun R hR => ?_; simp [wrap_i64, wrap_u64, h0, h4, h5, hrow, hcell0, hcell, hle, hlt, hwi, AW.row_get, astore, optI, o7, o8, hwt, hwt2, hd0, hd1, pb, po]; try simp (disch := omega) only [if_pos, if_neg, wrap_i64, wrap_u64])
              | (refine hR _ _ ?_; clear hR R) | (refine hK _ _ ?_; clear hK K) | refine lwn ?_ | refine lr ?_ | refine la ?_
              | refine wn fun K hK => ?_
              | simp only [wS]
              | (refine callK (cI _) ?_; rintro _ _ ⟨rfl, rfl⟩ _ _)
              | (refine callK (cP _) ?_; rintro _ _ ⟨rfl, rfl⟩ _ _)
              | (refine callK (cS _) ?_; rintro _ _ ⟨rfl, rfl⟩ _ _)
              | (refine callK (cR1 _ _) ?_; rintro _ _ ⟨rfl, rfl⟩ _ _)
              | refine wb ?_ | refine wr ?_ | refine wk ?_ | refine we ?_ | refine ws ?_ | refine wq ?_
              | (refine wc rfl (fun hc => ?_) (fun hc => ?_) <;> (try simp at hc) <;> (try omega))
              | (refine ib (fun hc => ?_) (fun hc => ?_) <;> (try omega) <;> (try simp (disch := omega) only [if_pos, if_neg])))
              refine ⟨p.length - (i + 1), by omega, hle'.trans (AW.le.upd A' _ _), i + 1, some d, rfl, by omega, ?_, ?_, ?_, ?_, he⟩ <;> simp [h0, h4, h5, optI] <;> first | omega | (intro d hd; have := hbi d hd; omega) | (have := hbi; simp at this; omega)
        | none =>
          simp only at hE; subst hE; rw [if_pos rfl] at he
          by_cases oo : op = 8
          · have po := x8 rfl oo
            subst po
            subst oo
            rw [if_neg (by decide), if_pos rfl] at hN; subst hN
            refine awp_seq ?_
            repeat' (first
            | (refine lwc fun R hR => ?_; simp [wrap_i64, wrap_u64, h0, h4, h5, hrow, hcell0, hcell, hle, hlt, hwi, AW.row_get, astore, optI, ob, hd0, hd1]; try simp (disch := omega) only [if_pos, if_neg, wrap_i64, wrap_u64])
            | (refine hR _ _ ?_; clear hR R) | (refine hK _ _ ?_; clear hK K) | refine lwn ?_ | refine lr ?_ | refine la ?_
            | refine wn fun K hK => ?_
            | simp only [wS]
            | (refine callK (cI _) ?_; rintro _ _ ⟨rfl, rfl⟩ _ _)
            | (refine callK (cP _) ?_; rintro _ _ ⟨rfl, rfl⟩ _ _)
            | (refine callK (cS _) ?_; rintro _ _ ⟨rfl, rfl⟩ _ _)
            | refine wb ?_ | refine wr ?_ | refine wk ?_ | refine we ?_ | refine ws ?_ | refine wq ?_
            | (refine wc rfl (fun hc => ?_) (fun hc => ?_) <;> (try simp at hc) <;> (try omega))
            | (refine ib (fun hc => ?_) (fun hc => ?_) <;> (try omega) <;> (try simp (disch := omega) only [if_pos, if_neg])))
            refine ⟨p.length - (i + 1), by omega, hle'.trans (AW.le.upd A' _ _), i + 1, none, rfl, by omega, ?_, ?_, ?_, ?_, he⟩ <;> simp [h0, h4, h5, optI] <;> first | omega | (intro d hd; have := hbi d hd; omega) | (have := hbi; simp at this; omega)
          rw [if_neg ob, if_neg oo] at hN; subst hN
          by_cases po : pl = 1
          · subst po
            refine awp_seq ?_
            repeat' (first
            | (refine lwc fun R hR => ?_; simp [wrap_i64, wrap_u64, h0, h4, h5, hrow, hcell0, hcell, hle, hlt, hwi, AW.row_get, astore, optI, ob, oo, hd0, hd1]; try simp (disch := omega) only [if_pos, if_neg, wrap_i64, wrap_u64])
            | (refine hR _ _ ?_; clear hR R) | (refine hK _ _ ?_; clear hK K) | refine lwn ?_ | refine lr ?_ | refine la ?_
            | refine wn fun K hK => ?_
            | simp only [wS]
            | (refine callK (cI _) ?_; rintro _ _ ⟨rfl, rfl⟩ _ _)
            | (refine callK (cP _) ?_; rintro _ _ ⟨rfl, rfl⟩ _ _)
            | (refine callK (cS _) ?_; rintro _ _ ⟨rfl, rfl⟩ _ _)
            | refine wb ?_ | refine wr ?_ | refine wk ?_ | refine we ?_ | refine ws ?_ | refine wq ?_
            | (refine wc rfl (fun hc => ?_) (fun hc => ?_) <;> (try simp at hc) <;> (try omega))
            | (refine ib (fun hc => ?_) (fun hc => ?_) <;> (try omega) <;> (try simp (disch := omega) only [if_pos, if_neg])))
            refine ⟨p.length - (i + 1), by omega, hle'.trans (AW.le.upd A' _ _), i + 1, some d, rfl, by omega, ?_, ?_, ?_, ?_, he⟩ <;> simp [h0, h4, h5, optI] <;> first | omega | (intro d hd; have := hbi d hd; omega) | (have := hbi; simp at this; omega)
          · skip
            refine awp_seq ?_
            repeat' (first
            | (refine lwc fun R hR => ?_; simp [wrap_i64, wrap_u64, h0, h4, h5, hrow, hcell0, hcell, hle, hlt, hwi, AW.row_get, astore, optI, ob, oo, pb, po, hd0, hd1]; try simp (disch := omega) only [if_pos, if_neg, wrap_i64, wrap_u64])
            | (refine hR _ _ ?_; clear hR R) | (refine hK _ _ ?_; clear hK K) | refine lwn ?_ | refine lr ?_ | refine la ?_
            | refine wn fun K hK => ?_
            | simp only [wS]
            | (refine callK (cI _) ?_; rintro _ _ ⟨rfl, rfl⟩ _ _)
            | (refine callK (cP _) ?_; rintro _ _ ⟨rfl, rfl⟩ _ _)
            | (refine callK (cS _) ?_; rintro _ _ ⟨rfl, rfl⟩ _ _)
            | refine wb ?_ | refine wr ?_ | refine wk ?_ | refine we ?_ | refine ws ?_ | refine wq ?_
            | (refine wc rfl (fun hc => ?_) (fun hc => ?_) <;> (try simp at hc) <;> (try omega))
            | (refine ib (fun hc => ?_) (fun hc => ?_) <;> (try omega) <;> (try simp (disch := omega) only [if_pos, if_neg])))
            refine ⟨p.length - (i + 1), by omega, hle'.trans (AW.le.upd A' _ _), i + 1, some d, rfl, by omega, ?_, ?_, ?_, ?_, he⟩ <;> simp [h0, h4, h5, optI] <;> first | omega | (intro d hd; have := hbi d hd; omega) | (have := hbi; simp at this; omega)
    · have hil : i = p.length := by omega
      subst hil
      rw [List.drop_length] at he
      unfold checkGo at he
      cases b with
      | none =>
        simp only [optI] at h4
        refine awp_seq ?_
        repeat' (first
        | (refine lwc fun R hR => ?_; simp [wrap_i64, wrap_u64, h0, h4, h5, hlt]; try simp (disch := omega) only [if_pos, if_neg, wrap_i64, wrap_u64])
        | (refine hR _ _ ?_; clear hR R) | (refine hK _ _ ?_; clear hK K) | refine lwn ?_ | refine lr ?_ | refine la ?_
        | refine wn fun K hK => ?_
        | simp only [wS]
        | refine wb ?_ | refine wr ?_ | refine wk ?_ | refine we ?_ | refine ws ?_ | refine wq ?_
        | (refine wc rfl (fun hc => ?_) (fun hc => ?_) <;> (try simp at hc) <;> (try omega))
        | (refine ib (fun hc => ?_) (fun hc => ?_) <;> (try omega) <;> (try simp (disch := omega) only [if_pos, if_neg])))
        all_goals first | exact hle' | (simp [ABlock, AThen, APost, ares, aresL, ares1, errV, he] <;> exact hle')
      | some d =>
        simp only [optI] at h4
        have hd0 : ¬ ((d : Int) < 0) := by omega
        have hd1 : (0 : Int) ≤ d := by omega
        refine awp_seq ?_
        repeat' (first
        | (refine lwc fun R hR => ?_; simp [wrap_i64, wrap_u64, h0, h4, h5, hlt, hd0, hd1]; try simp (disch := omega) only [if_pos, if_neg, wrap_i64, wrap_u64])
        | (refine hR _ _ ?_; clear hR R) | (refine hK _ _ ?_; clear hK K) | refine lwn ?_ | refine lr ?_ | refine la ?_
        | refine wn fun K hK => ?_
        | simp only [wS]
        | refine wb ?_ | refine wr ?_ | refine wk ?_ | refine we ?_ | refine ws ?_ | refine wq ?_
        | (refine wc rfl (fun hc => ?_) (fun hc => ?_) <;> (try simp at hc) <;> (try omega))
        | (refine ib (fun hc => ?_) (fun hc => ?_) <;> (try omega) <;> (try simp (disch := omega) only [if_pos, if_neg])))
        all_goals first | exact hle' | (simp [ABlock, AThen, APost, ares, aresL, ares1, errV, he] <;> exact hle')
end Go.Stx
