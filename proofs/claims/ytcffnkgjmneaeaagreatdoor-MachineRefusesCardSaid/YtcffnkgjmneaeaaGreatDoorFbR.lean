/-
  The checks of a script, by both.
-/
import Derived.Test.YtcffnkgjmneaeaaGreatDoorFbL
import Derived.Test.YtcffnkgjmneaeaaGreatDoorFbQ
namespace Go.Stx
open Go Go.Proofs
def oFbR_0 : List (Nat × Nat) := [(0, 0), (1, 0), (2, 0), (3, 0), (4, 0), (5, 0), (6, 0), (7, 0), (8, 0), (9, 0), (10, 0), (11, 0), (12, 0), (13, 0), (14, 0), (15, 0), (16, 0)]
attribute [local irreducible] AWP LWalk ACall ARounds lops nops
set_option linter.unusedVariables false
set_option linter.unusedSimpArgs false
set_option linter.unusedSectionVars false
set_option maxRecDepth 20000

def progsGo : List (List InsV) → Nat → Option (Nat × Nat × Int)
  | [], _ => none
  | p :: l, t => if (progCheck p).2 = 0 then progsGo l (t + 1) else some (t, (progCheck p).1, (progCheck p).2)
def pickGo (n : Nat) : List Int → Nat → Option Nat
  | [], _ => none
  | x :: l, k => if x < 0 ∨ (n : Int) ≤ x then some k else pickGo n l (k + 1)
def scriptErr (c : CfgS) (ni : Nat) (ps : List (List InsV)) (pk : List Int) : Nat × Nat × Int :=
  if cfgErr c ≠ 0 then (0, 0, cfgErr c)
  else if ps.length < 1 ∨ 16 < ps.length then (0, 0, 54)
  else if ¬ (ni : Int) = c.words then (0, 0, 55)
  else match progsGo ps 0 with
  | some r => r
  | none => if 65536 < pk.length then (0, 0, 56) else match pickGo ps.length pk 0 with
    | some k => (0, k, 56)
    | none => (0, 0, 0)
def errV3 (x : Nat × Nat × Int) : Value := .tuple #[.int .i64 x.1, .int .i64 x.2.1, .int .i64 x.2.2]
variable [Gl]

/-- A slice of programs. -/
def IsProgs (A : AW) (v : Value) (ps : List (List InsV)) : Prop := ∃ us : List Value, IsSl A 1 v ps.length us ∧ ∀ i (hi : i < ps.length), ∃ u, us[i]? = some u ∧ IsIns A u ps[i]
theorem IsProgs.le {A B : AW} (hl : A.le B) (hw : A.Wf) {v : Value} {ps : List (List InsV)} (h : IsProgs A v ps) : IsProgs B v ps := by
  obtain ⟨us, h1, h2⟩ := h
  exact ⟨us, h1.le hl hw, fun i hi => let ⟨u, h3, h4⟩ := h2 i hi; ⟨u, h3, h4.le hl hw⟩⟩
theorem IsProgs.form {A : AW} {v : Value} {ls : List (List InsV)} (h : IsProgs A v ls) : ∃ o c, v = .slice o ls.length c ∧ ls.length ≤ c := by
  obtain ⟨us, h1, _⟩ := h
  exact h1.form
theorem IsProgs.at {A : AW} {o : Option Addr} {n c : Nat} {ls : List (List InsV)} (h : IsProgs A (.slice o n c) ls) {i : Nat} (hi : i < ls.length) :
    ∃ p row u, o = some p ∧ A.row p.block = some row ∧ row[p.off + i]? = some u ∧ IsIns A u ls[i] := by
  obtain ⟨us, h1, h2⟩ := h
  obtain ⟨u, h3, h4⟩ := h2 i hi
  rcases h1 with ⟨_, e, _⟩ | ⟨p, c', row, own, q, e1, e2, e3, e4, e5, e6⟩
  · omega
  · injection e1 with e1 e7 e8
    subst e4
    refine ⟨p, row, u, e1, AW.row_of e3, ?_, h4⟩
    rw [e6, Nat.mul_one, List.getElem?_take_of_lt hi, List.getElem?_drop] at h3
    exact h3

def scCells (c : CfgS) (vi vp vk : Value) : List Value := c.cells ++ [vi, vp, vk]
def scV (c : CfgS) (vi vp vk : Value) : Value := .agg (scCells c vi vp vk).toArray

def scZero : List Value := [.int .i64 0, .int .i64 0, .int .i64 0, .int .i64 0, .int .i64 0, .int .i64 0, .int .i64 0, .int .i64 0, .int .i64 0, .int .i64 0, .int .i64 0, .int .i64 0, .bool false, .slice none 0 0, .slice none 0 0, .slice none 0 0]
def bareM (A : AW) (L K : List Value) : AW := (((A.alloc (.cells L true 1)).alloc (.cells scZero true 1)).set A.next (some (.cells K true 1))).set (A.next + 1) (some (.cells K true 1))
theorem bareM_le (A : AW) (L K : List Value) : A.le (bareM A L K) :=
  ((((AW.le.alloc A _).trans (AW.le.alloc _ _)).set (Nat.le_refl _) _).set (by omega) _)
theorem bareM_wf {A : AW} (hw : A.Wf) (L K : List Value) : (bareM A L K).Wf := (((hw.alloc _).alloc _).set _ (by simp; omega)).set _ (by simp)

theorem bare_call (c : CfgS) (oi op ok : Option Addr) (ni ci np cp nk ck : Nat) (A : AW) : ACall Tryz.prog 13 [scV c (.slice oi ni ci) (.slice op np cp) (.slice ok nk ck)] A
    (fun u A' => u = scV c (.slice oi ni ci) (.slice op np cp) (.slice none 0 0) ∧ bareM A (scCells c (.slice oi ni ci) (.slice op np cp) (.slice ok nk ck)) (scCells c (.slice oi ni ci) (.slice op np cp) (.slice none 0 0)) = A') := by
  refine acall_intro Tryz.func13 rfl (by kernel_rfl) fun hw => ?_
  unfold scV scCells CfgS.cells
  repeat' (first
  | (refine lwc fun R hR => ?_; simp [wrap_i64, wrap_u64, AW.row_get, astore]; try simp (disch := omega) only [if_pos, if_neg, wrap_i64, wrap_u64])
  | (refine hR _ _ ?_; clear hR R) | (refine hK _ _ ?_; clear hK K) | refine lwn ?_ | refine lr ?_ | refine la ?_
  | refine wn fun K hK => ?_
  | simp only [wS]
  | refine wb ?_ | refine wr ?_ | refine wk ?_ | refine we ?_ | refine ws ?_ | refine wq ?_
  | (refine wc rfl (fun hc => ?_) (fun hc => ?_) <;> (try simp at hc) <;> (try omega))
  | (refine ib (fun hc => ?_) (fun hc => ?_) <;> (try omega) <;> (try simp (disch := omega) only [if_pos, if_neg])))
  all_goals simp [AThen, APost, ares, aresL, ares1, aload, AW.row_get, bareM, scZero]

set_option maxHeartbeats 8000000 in
theorem script_call (hF : FOK) (c : CfgS) (vi vp vk : Value) (ni ci : Nat) (oi : Option Addr) (ps : List (List InsV)) (pk : List Int) (A : AW) (hvi : vi = .slice oi ni ci) (hp : IsProgs A vp ps) (hk : IsInts A .i64 vk pk) :
    ACall Tryz.prog 53 [scV c vi vp vk] A (fun u A' => u = errV3 (scriptErr c ni ps pk) ∧ A = A') := by
  refine ACall.gc0 (V := errV3 (scriptErr c ni ps pk)) (VBelow.tuple (by simp)) (fun hw => ?_) (by kernel_rfl)
  refine acall_intro Tryz.func53 rfl (by kernel_rfl) fun _ => ?_
  subst hvi
  obtain ⟨op, cp, rfl, _⟩ := hp.form
  obtain ⟨ok, ck, rfl, _⟩ := hk.form
  have hc := cfgCheck_call c
  unfold scriptErr
  generalize cfgErr c = ce at hc ⊢
  obtain ⟨wds, ords, bas, c0, c1, c2, c3, rds, wrs, als, fre, clk, stg⟩ := c
  unfold scV scCells
  simp only [CfgS.v, CfgS.cells, List.cons_append, List.nil_append] at hc ⊢
  obtain ⟨O, hO⟩ : ∃ O, (AObj.cells [.int .i64 wds, .int .i64 ords, .int .i64 bas, .int .i64 c0, .int .i64 c1, .int .i64 c2, .int .i64 c3, .int .i64 rds, .int .i64 wrs, .int .i64 als, .int .i64 fre, .int .i64 clk, .bool stg, .slice oi ni ci, .slice op ps.length cp, .slice ok pk.length ck] true 1) = O := ⟨_, rfl⟩
  by_cases e0 : ce = 0
  rotate_left
  · rw [if_pos e0]
    repeat' (first
    | (refine lwc fun R hR => ?_; simp [wrap_i64, wrap_u64, AW.row_get, astore, e0]; try simp (disch := omega) only [if_pos, if_neg, wrap_i64, wrap_u64])
    | (refine hR _ _ ?_; clear hR R) | (refine hK _ _ ?_; clear hK K) | refine lwn ?_ | refine lr ?_ | refine la ?_
    | refine wn fun K hK => ?_
    | simp only [wS]
    | (refine callK (hc _) ?_; rintro _ _ ⟨rfl, rfl⟩ _ _)
    | (refine callK (within_call _ _ _ _) ?_; rintro _ _ ⟨rfl, rfl⟩ _ _)
    | refine wb ?_ | refine wr ?_ | refine wk ?_ | refine we ?_ | refine ws ?_ | refine wq ?_
    | (refine wc rfl (fun hc => ?_) (fun hc => ?_) <;> (try simp at hc) <;> (try omega))
    | (refine ib (fun hc => ?_) (fun hc => ?_) <;> (try omega) <;> (try simp (disch := omega) only [if_pos, if_neg])))
    all_goals first | exact AW.le.alloc A _ | (simp [AThen, APost, ares, aresL, ares1, errV3] <;> exact AW.le.alloc A _)
  subst e0
  rw [if_neg (by simp)]
  by_cases e1 : ps.length < 1 ∨ 16 < ps.length
  · rw [if_pos e1]
    by_cases e2 : ps.length < 1
    · have e2' : ps.length = 0 := by omega
      repeat' (first
      | (refine lwc fun R hR => ?_; simp [wrap_i64, wrap_u64, AW.row_get, astore, e2, e2']; try simp (disch := omega) only [if_pos, if_neg, wrap_i64, wrap_u64])
      | (refine hR _ _ ?_; clear hR R) | (refine hK _ _ ?_; clear hK K) | refine lwn ?_ | refine lr ?_ | refine la ?_
      | refine wn fun K hK => ?_
      | simp only [wS]
      | (refine callK (hc _) ?_; rintro _ _ ⟨rfl, rfl⟩ _ _)
      | (refine callK (within_call _ _ _ _) ?_; rintro _ _ ⟨rfl, rfl⟩ _ _)
      | refine wb ?_ | refine wr ?_ | refine wk ?_ | refine we ?_ | refine ws ?_ | refine wq ?_
      | (refine wc rfl (fun hc => ?_) (fun hc => ?_) <;> (try simp at hc) <;> (try omega))
      | (refine ib (fun hc => ?_) (fun hc => ?_) <;> (try omega) <;> (try simp (disch := omega) only [if_pos, if_neg])))
      all_goals first | exact AW.le.alloc A _ | (simp [AThen, APost, ares, aresL, ares1, errV3] <;> exact AW.le.alloc A _)
    · have e3 : 16 < ps.length := by omega
      have e4 : ¬ (ps.length : Int) ≤ 16 := by omega
      have e5 : 1 ≤ (ps.length : Int) := by omega
      repeat' (first
      | (refine lwc fun R hR => ?_; simp [wrap_i64, wrap_u64, AW.row_get, astore, e2, e3, e4, e5]; try simp (disch := omega) only [if_pos, if_neg, wrap_i64, wrap_u64])
      | (refine hR _ _ ?_; clear hR R) | (refine hK _ _ ?_; clear hK K) | refine lwn ?_ | refine lr ?_ | refine la ?_
      | refine wn fun K hK => ?_
      | simp only [wS]
      | (refine callK (hc _) ?_; rintro _ _ ⟨rfl, rfl⟩ _ _)
      | (refine callK (within_call _ _ _ _) ?_; rintro _ _ ⟨rfl, rfl⟩ _ _)
      | refine wb ?_ | refine wr ?_ | refine wk ?_ | refine we ?_ | refine ws ?_ | refine wq ?_
      | (refine wc rfl (fun hc => ?_) (fun hc => ?_) <;> (try simp at hc) <;> (try omega))
      | (refine ib (fun hc => ?_) (fun hc => ?_) <;> (try omega) <;> (try simp (disch := omega) only [if_pos, if_neg])))
      all_goals first | exact AW.le.alloc A _ | (simp [AThen, APost, ares, aresL, ares1, errV3] <;> exact AW.le.alloc A _)
  rw [if_neg e1]
  have e2 : ¬ ps.length < 1 := by omega
  have e3 : ¬ 16 < ps.length := by omega
  have e4 : (ps.length : Int) ≤ 16 := by omega
  have e5 : 1 ≤ (ps.length : Int) := by omega
  by_cases e6 : (ni : Int) = wds
  rotate_left
  · rw [if_pos e6]
    repeat' (first
    | (refine lwc fun R hR => ?_; simp [wrap_i64, wrap_u64, AW.row_get, astore, e2, e3, e4, e5, e6]; try simp (disch := omega) only [if_pos, if_neg, wrap_i64, wrap_u64])
    | (refine hR _ _ ?_; clear hR R) | (refine hK _ _ ?_; clear hK K) | refine lwn ?_ | refine lr ?_ | refine la ?_
    | refine wn fun K hK => ?_
    | simp only [wS]
    | (refine callK (hc _) ?_; rintro _ _ ⟨rfl, rfl⟩ _ _)
    | (refine callK (within_call _ _ _ _) ?_; rintro _ _ ⟨rfl, rfl⟩ _ _)
    | refine wb ?_ | refine wr ?_ | refine wk ?_ | refine we ?_ | refine ws ?_ | refine wq ?_
    | (refine wc rfl (fun hc => ?_) (fun hc => ?_) <;> (try simp at hc) <;> (try omega))
    | (refine ib (fun hc => ?_) (fun hc => ?_) <;> (try omega) <;> (try simp (disch := omega) only [if_pos, if_neg])))
    all_goals first | exact AW.le.alloc A _ | (simp [AThen, APost, ares, aresL, ares1, errV3] <;> exact AW.le.alloc A _)
  subst e6
  rw [if_neg (by simp)]
  obtain ⟨Rp, hRp⟩ : ∃ Rp, progsGo ps 0 = Rp := ⟨_, rfl⟩
  obtain ⟨Rk, hRk⟩ : ∃ Rk, pickGo ps.length pk 0 = Rk := ⟨_, rfl⟩
  have hR0 : Rp = progsGo (ps.drop 0) 0 := hRp.symm
  have hK0 : Rk = pickGo ps.length (pk.drop 0) 0 := hRk.symm
  rw [hRp, hRk]
  clear hRp hRk
  obtain ⟨V, hV⟩ : ∃ V, errV3 (match Rp with
    | some r => r
    | none => if 65536 < pk.length then (0, 0, 56) else match Rk with
      | some k => (0, k, 56)
      | none => (0, 0, 0)) = V := ⟨_, rfl⟩
  rw [hV]
  repeat' (first
  | (refine lwc fun R hR => ?_; simp [wrap_i64, wrap_u64, AW.row_get, astore, e2, e3, e4, e5]; try simp (disch := omega) only [if_pos, if_neg, wrap_i64, wrap_u64])
  | (refine hR _ _ ?_; clear hR R) | (refine hK _ _ ?_; clear hK K) | refine lwn ?_ | refine lr ?_ | refine la ?_
  | refine wn fun K hK => ?_
  | simp only [wS]
  | (refine callK (hc _) ?_; rintro _ _ ⟨rfl, rfl⟩ _ _)
  | (refine callK (within_call _ _ _ _) ?_; rintro _ _ ⟨rfl, rfl⟩ _ _)
  | refine wb ?_ | refine wr ?_ | refine wk ?_ | refine we ?_ | refine ws ?_ | refine wq ?_
  | (refine wc rfl (fun hc => ?_) (fun hc => ?_) <;> (try simp at hc) <;> (try omega))
  | (refine ib (fun hc => ?_) (fun hc => ?_) <;> (try omega) <;> (try simp (disch := omega) only [if_pos, if_neg])))
  rw [hO]
  have hleO : A.le (A.alloc O) := AW.le.alloc A O
  have hgO : (A.alloc O).get A.next = some O := by simp
  have hwO := hw.alloc O
  generalize A.alloc O = A1 at hleO hgO hwO ⊢
  subst hO
  have hrO := AW.row_of hgO
  refine awp_loop (fun k fr A' => A1 = A' ∧ ∃ i : Nat, k = ps.length - i ∧ i ≤ ps.length ∧ fr 1 = .pointer (some ⟨A.next, 0, none⟩) ∧ fr 31 = .slice op ps.length cp ∧ fr 32 = .int .i64 ps.length ∧ fr 33 = .int .i64 i ∧ Rp = progsGo (ps.drop i) i) ps.length ?_ ?_
  · exact ⟨rfl, 0, rfl, Nat.zero_le _, rfl, rfl, rfl, rfl, hR0⟩
  · rintro k fr A' ⟨rfl, i, rfl, hi, g1, g31, g32, g33, he⟩
    by_cases hlt : i < ps.length
    · obtain ⟨q, row, u, hq', hrow, hcell, hu⟩ := (hp.le hleO hw).at hlt
      subst hq'
      have hwi : IntKind.i64.wrap ((i : Int) + 1) = ((i + 1 : Nat) : Int) := wrap_i64 (by omega) (by omega)
      have hdr : ps.drop i = ps[i] :: ps.drop (i + 1) := List.drop_eq_getElem_cons hlt
      rw [hdr] at he
      unfold progsGo at he
      have cC := progCheck_call hF u ps[i] _ hu
      unfold errV at cC
      by_cases z : (progCheck ps[i]).2 = 0
      · rw [if_pos z] at he
        rw [z] at cC
        refine awp_seq ?_
        repeat' (first
        | (refine lwc fun R hR => ?_; simp [wrap_i64, wrap_u64, hrO, g1, g31, g32, g33, hlt, hwi, hrow, hcell]; try simp (disch := omega) only [if_pos, if_neg, wrap_i64, wrap_u64])
        | (refine hR _ _ ?_; clear hR R) | (refine hK _ _ ?_; clear hK K) | refine lwn ?_ | refine lr ?_ | refine la ?_
        | refine wn fun K hK => ?_
        | simp only [wS]
        | (refine callK (cC) ?_; rintro _ _ ⟨rfl, rfl⟩ _ _)
        | (refine callK (within_call _ _ _ _) ?_; rintro _ _ ⟨rfl, rfl⟩ _ _)
        | refine wb ?_ | refine wr ?_ | refine wk ?_ | refine we ?_ | refine ws ?_ | refine wq ?_
        | (refine wc rfl (fun hc => ?_) (fun hc => ?_) <;> (try simp at hc) <;> (try omega))
        | (refine ib (fun hc => ?_) (fun hc => ?_) <;> (try omega) <;> (try simp (disch := omega) only [if_pos, if_neg])))
        refine ⟨ps.length - (i + 1), by omega, rfl, i + 1, rfl, by omega, ?_, ?_, ?_, ?_, he⟩ <;> simp [g1, g31, g32, g33]
      · rw [if_neg z] at he
        rw [he] at hV
        simp only at hV
        refine awp_seq ?_
        repeat' (first
        | (refine lwc fun R hR => ?_; simp [wrap_i64, wrap_u64, hrO, g1, g31, g32, g33, hlt, hwi, hrow, hcell, z]; try simp (disch := omega) only [if_pos, if_neg, wrap_i64, wrap_u64])
        | (refine hR _ _ ?_; clear hR R) | (refine hK _ _ ?_; clear hK K) | refine lwn ?_ | refine lr ?_ | refine la ?_
        | refine wn fun K hK => ?_
        | simp only [wS]
        | (refine callK (cC) ?_; rintro _ _ ⟨rfl, rfl⟩ _ _)
        | (refine callK (within_call _ _ _ _) ?_; rintro _ _ ⟨rfl, rfl⟩ _ _)
        | refine wb ?_ | refine wr ?_ | refine wk ?_ | refine we ?_ | refine ws ?_ | refine wq ?_
        | (refine wc rfl (fun hc => ?_) (fun hc => ?_) <;> (try simp at hc) <;> (try omega))
        | (refine ib (fun hc => ?_) (fun hc => ?_) <;> (try omega) <;> (try simp (disch := omega) only [if_pos, if_neg])))
        all_goals first | exact hleO | (simp [ABlock, AThen, APost, ares, aresL, ares1, ← hV, errV3] <;> exact hleO)
    have hil : i = ps.length := by omega
    subst hil
    rw [List.drop_length] at he
    rw [he] at hV
    simp only [progsGo] at hV
    by_cases f1 : 65536 < pk.length
    · rw [if_pos f1] at hV
      refine awp_seq ?_
      repeat' (first
      | (refine lwc fun R hR => ?_; simp [wrap_i64, wrap_u64, hrO, g1, g31, g32, g33, hlt, f1]; try simp (disch := omega) only [if_pos, if_neg, wrap_i64, wrap_u64])
      | (refine hR _ _ ?_; clear hR R) | (refine hK _ _ ?_; clear hK K) | refine lwn ?_ | refine lr ?_ | refine la ?_
      | refine wn fun K hK => ?_
      | simp only [wS]
      | (refine callK (within_call _ _ _ _) ?_; rintro _ _ ⟨rfl, rfl⟩ _ _)
      | refine wb ?_ | refine wr ?_ | refine wk ?_ | refine we ?_ | refine ws ?_ | refine wq ?_
      | (refine wc rfl (fun hc => ?_) (fun hc => ?_) <;> (try simp at hc) <;> (try omega))
      | (refine ib (fun hc => ?_) (fun hc => ?_) <;> (try omega) <;> (try simp (disch := omega) only [if_pos, if_neg])))
      all_goals first | exact hleO | (simp [ABlock, AThen, APost, ares, aresL, ares1, ← hV, errV3] <;> exact hleO)
    rw [if_neg f1] at hV
    refine awp_seq ?_
    repeat' (first
    | (refine lwc fun R hR => ?_; simp [wrap_i64, wrap_u64, hrO, g1, g31, g32, g33, hlt, f1]; try simp (disch := omega) only [if_pos, if_neg, wrap_i64, wrap_u64])
    | (refine hR _ _ ?_; clear hR R) | (refine hK _ _ ?_; clear hK K) | refine lwn ?_ | refine lr ?_ | refine la ?_
    | refine wn fun K hK => ?_
    | simp only [wS]
    | (refine callK (within_call _ _ _ _) ?_; rintro _ _ ⟨rfl, rfl⟩ _ _)
    | refine wb ?_ | refine wr ?_ | refine wk ?_ | refine we ?_ | refine ws ?_ | refine wq ?_
    | (refine wc rfl (fun hc => ?_) (fun hc => ?_) <;> (try simp at hc) <;> (try omega))
    | (refine ib (fun hc => ?_) (fun hc => ?_) <;> (try omega) <;> (try simp (disch := omega) only [if_pos, if_neg])))
    refine awp_loop (fun k fr2 A' => A1 = A' ∧ ∃ i : Nat, k = pk.length - i ∧ i ≤ pk.length ∧ fr2 1 = .pointer (some ⟨A.next, 0, none⟩) ∧ fr2 54 = .slice ok pk.length ck ∧ fr2 55 = .int .i64 pk.length ∧ fr2 56 = .int .i64 i ∧ Rk = pickGo ps.length (pk.drop i) i) pk.length ?_ ?_
    · refine ⟨rfl, 0, rfl, Nat.zero_le _, ?_, ?_, ?_, ?_, hK0⟩ <;> simp [g1]
    · rintro k fr2 A' ⟨rfl, i, rfl, hi2, j1, j54, j55, j56, hf⟩
      by_cases hlt2 : i < pk.length
      · obtain ⟨q, row, hq', hrow, hcell⟩ := (hk.le hleO hw).at hlt2
        subst hq'
        have hwi : IntKind.i64.wrap ((i : Int) + 1) = ((i + 1 : Nat) : Int) := wrap_i64 (by omega) (by omega)
        have hdr : pk.drop i = pk[i] :: pk.drop (i + 1) := List.drop_eq_getElem_cons hlt2
        rw [hdr] at hf
        unfold pickGo at hf
        generalize pk[i] = x at hcell hf
        by_cases b1 : x < 0
        · rw [if_pos (.inl b1)] at hf
          rw [hf] at hV
          simp only at hV
          refine awp_seq ?_
          repeat' (first
          | (refine lwc fun R hR => ?_; simp [wrap_i64, wrap_u64, hrO, j1, j54, j55, j56, hlt2, hwi, hrow, hcell, b1]; try simp (disch := omega) only [if_pos, if_neg, wrap_i64, wrap_u64])
          | (refine hR _ _ ?_; clear hR R) | (refine hK _ _ ?_; clear hK K) | refine lwn ?_ | refine lr ?_ | refine la ?_
          | refine wn fun K hK => ?_
          | simp only [wS]
          | (refine callK (within_call _ _ _ _) ?_; rintro _ _ ⟨rfl, rfl⟩ _ _)
          | refine wb ?_ | refine wr ?_ | refine wk ?_ | refine we ?_ | refine ws ?_ | refine wq ?_
          | (refine wc rfl (fun hc => ?_) (fun hc => ?_) <;> (try simp at hc) <;> (try omega))
          | (refine ib (fun hc => ?_) (fun hc => ?_) <;> (try omega) <;> (try simp (disch := omega) only [if_pos, if_neg])))
          all_goals first | exact hleO | (simp [ABlock, AThen, APost, ares, aresL, ares1, ← hV, errV3] <;> exact hleO)
        by_cases b2 : (ps.length : Int) ≤ x
        · rw [if_pos (.inr b2)] at hf
          rw [hf] at hV
          simp only at hV
          refine awp_seq ?_
          repeat' (first
          | (refine lwc fun R hR => ?_; simp [wrap_i64, wrap_u64, hrO, j1, j54, j55, j56, hlt2, hwi, hrow, hcell, b1, b2]; try simp (disch := omega) only [if_pos, if_neg, wrap_i64, wrap_u64])
          | (refine hR _ _ ?_; clear hR R) | (refine hK _ _ ?_; clear hK K) | refine lwn ?_ | refine lr ?_ | refine la ?_
          | refine wn fun K hK => ?_
          | simp only [wS]
          | (refine callK (within_call _ _ _ _) ?_; rintro _ _ ⟨rfl, rfl⟩ _ _)
          | refine wb ?_ | refine wr ?_ | refine wk ?_ | refine we ?_ | refine ws ?_ | refine wq ?_
          | (refine wc rfl (fun hc => ?_) (fun hc => ?_) <;> (try simp at hc) <;> (try omega))
          | (refine ib (fun hc => ?_) (fun hc => ?_) <;> (try omega) <;> (try simp (disch := omega) only [if_pos, if_neg])))
          all_goals first | exact hleO | (simp [ABlock, AThen, APost, ares, aresL, ares1, ← hV, errV3] <;> exact hleO)
        · rw [if_neg (by omega)] at hf
          refine awp_seq ?_
          repeat' (first
          | (refine lwc fun R hR => ?_; simp [wrap_i64, wrap_u64, hrO, j1, j54, j55, j56, hlt2, hwi, hrow, hcell, b1, b2]; try simp (disch := omega) only [if_pos, if_neg, wrap_i64, wrap_u64])
          | (refine hR _ _ ?_; clear hR R) | (refine hK _ _ ?_; clear hK K) | refine lwn ?_ | refine lr ?_ | refine la ?_
          | refine wn fun K hK => ?_
          | simp only [wS]
          | (refine callK (within_call _ _ _ _) ?_; rintro _ _ ⟨rfl, rfl⟩ _ _)
          | refine wb ?_ | refine wr ?_ | refine wk ?_ | refine we ?_ | refine ws ?_ | refine wq ?_
          | (refine wc rfl (fun hc => ?_) (fun hc => ?_) <;> (try simp at hc) <;> (try omega))
          | (refine ib (fun hc => ?_) (fun hc => ?_) <;> (try omega) <;> (try simp (disch := omega) only [if_pos, if_neg])))
          refine ⟨pk.length - (i + 1), by omega, rfl, i + 1, rfl, by omega, ?_, ?_, ?_, ?_, hf⟩ <;> simp [j1, j54, j55, j56]
      · have hil2 : i = pk.length := by omega
        subst hil2
        rw [List.drop_length] at hf
        rw [hf] at hV
        simp only [pickGo] at hV
        refine awp_seq ?_
        repeat' (first
        | (refine lwc fun R hR => ?_; simp [wrap_i64, wrap_u64, hrO, j1, j54, j55, j56, hlt2]; try simp (disch := omega) only [if_pos, if_neg, wrap_i64, wrap_u64])
        | (refine hR _ _ ?_; clear hR R) | (refine hK _ _ ?_; clear hK K) | refine lwn ?_ | refine lr ?_ | refine la ?_
        | refine wn fun K hK => ?_
        | simp only [wS]
        | (refine callK (within_call _ _ _ _) ?_; rintro _ _ ⟨rfl, rfl⟩ _ _)
        | refine wb ?_ | refine wr ?_ | refine wk ?_ | refine we ?_ | refine ws ?_ | refine wq ?_
        | (refine wc rfl (fun hc => ?_) (fun hc => ?_) <;> (try simp at hc) <;> (try omega))
        | (refine ib (fun hc => ?_) (fun hc => ?_) <;> (try omega) <;> (try simp (disch := omega) only [if_pos, if_neg])))
        all_goals first | exact hleO | (simp [ABlock, AThen, APost, ares, aresL, ares1, ← hV, errV3] <;> exact hleO)

set_option maxHeartbeats 8000000 in
theorem refScript_call (hn : Gl.N = 4) (c : CfgS) (vi vp vk : Value) (ni ci : Nat) (oi : Option Addr) (ps : List (List InsV)) (pk : List Int) (A : AW) (hvi : vi = .slice oi ni ci) (hp : IsProgs A vp ps) (hk : IsInts A .i64 vk pk) :
    ACall Tryz.prog 12 [scV c vi vp vk] A (fun u A' => u = errV3 (scriptErr c ni ps pk) ∧ A = A') := by
  refine ACall.gc0 (V := errV3 (scriptErr c ni ps pk)) (VBelow.tuple (by simp)) (fun hw => ?_) (by kernel_rfl)
  refine acall_intro Tryz.func12 rfl (by kernel_rfl) fun _ => ?_
  subst hvi
  obtain ⟨op, cp, rfl, _⟩ := hp.form
  obtain ⟨ok, ck, rfl, _⟩ := hk.form
  have hc := refCfgCheck_call c
  unfold scriptErr
  generalize cfgErr c = ce at hc ⊢
  obtain ⟨wds, ords, bas, c0, c1, c2, c3, rds, wrs, als, fre, clk, stg⟩ := c
  unfold scV scCells
  simp only [CfgS.v, CfgS.cells, List.cons_append, List.nil_append] at hc ⊢
  obtain ⟨O, hO⟩ : ∃ O, (AObj.cells [.int .i64 wds, .int .i64 ords, .int .i64 bas, .int .i64 c0, .int .i64 c1, .int .i64 c2, .int .i64 c3, .int .i64 rds, .int .i64 wrs, .int .i64 als, .int .i64 fre, .int .i64 clk, .bool stg, .slice oi ni ci, .slice op ps.length cp, .slice ok pk.length ck] true 1) = O := ⟨_, rfl⟩
  by_cases e0 : ce = 0
  rotate_left
  · rw [if_pos e0]
    repeat' (first
    | (refine lwc fun R hR => ?_; simp [wrap_i64, wrap_u64, AW.row_get, astore, e0]; try simp (disch := omega) only [if_pos, if_neg, wrap_i64, wrap_u64])
    | (refine hR _ _ ?_; clear hR R) | (refine hK _ _ ?_; clear hK K) | refine lwn ?_ | refine lr ?_ | refine la ?_
    | refine wn fun K hK => ?_
    | simp only [wS, oFbR_0]
    | refine wl Tryz.mx oFbR_0 (by decide +kernel) fun K hK => ?_
    | (refine callK (hc _) ?_; rintro _ _ ⟨rfl, rfl⟩ _ _)
    | refine wb ?_ | refine wr ?_ | refine wk ?_ | refine we ?_ | refine ws ?_ | refine wq ?_
    | (refine wc rfl (fun hc => ?_) (fun hc => ?_) <;> (try simp at hc) <;> (try omega))
    | (refine ib (fun hc => ?_) (fun hc => ?_) <;> (try omega) <;> (try simp (disch := omega) only [if_pos, if_neg])))
    all_goals first | exact AW.le.alloc A _ | (simp [AThen, APost, ares, aresL, ares1, errV3] <;> exact AW.le.alloc A _)
  subst e0
  rw [if_neg (by simp)]
  by_cases e1 : ps.length < 1 ∨ 16 < ps.length
  · rw [if_pos e1]
    by_cases e2 : ps.length < 1
    · have e2' : ps.length = 0 := by omega
      repeat' (first
      | (refine lwc fun R hR => ?_; simp [wrap_i64, wrap_u64, AW.row_get, astore, e2, e2']; try simp (disch := omega) only [if_pos, if_neg, wrap_i64, wrap_u64])
      | (refine hR _ _ ?_; clear hR R) | (refine hK _ _ ?_; clear hK K) | refine lwn ?_ | refine lr ?_ | refine la ?_
      | refine wn fun K hK => ?_
      | simp only [wS, oFbR_0]
      | refine wl Tryz.mx oFbR_0 (by decide +kernel) fun K hK => ?_
      | (refine callK (hc _) ?_; rintro _ _ ⟨rfl, rfl⟩ _ _)
      | refine wb ?_ | refine wr ?_ | refine wk ?_ | refine we ?_ | refine ws ?_ | refine wq ?_
      | (refine wc rfl (fun hc => ?_) (fun hc => ?_) <;> (try simp at hc) <;> (try omega))
      | (refine ib (fun hc => ?_) (fun hc => ?_) <;> (try omega) <;> (try simp (disch := omega) only [if_pos, if_neg])))
      all_goals first | exact AW.le.alloc A _ | (simp [AThen, APost, ares, aresL, ares1, errV3] <;> exact AW.le.alloc A _)
    · have e3 : 16 < ps.length := by omega
      have e4 : ¬ (ps.length : Int) ≤ 16 := by omega
      have e5 : 1 ≤ (ps.length : Int) := by omega
      repeat' (first
      | (refine lwc fun R hR => ?_; simp [wrap_i64, wrap_u64, AW.row_get, astore, e2, e3, e4, e5]; try simp (disch := omega) only [if_pos, if_neg, wrap_i64, wrap_u64])
      | (refine hR _ _ ?_; clear hR R) | (refine hK _ _ ?_; clear hK K) | refine lwn ?_ | refine lr ?_ | refine la ?_
      | refine wn fun K hK => ?_
      | simp only [wS, oFbR_0]
      | refine wl Tryz.mx oFbR_0 (by decide +kernel) fun K hK => ?_
      | (refine callK (hc _) ?_; rintro _ _ ⟨rfl, rfl⟩ _ _)
      | refine wb ?_ | refine wr ?_ | refine wk ?_ | refine we ?_ | refine ws ?_ | refine wq ?_
      | (refine wc rfl (fun hc => ?_) (fun hc => ?_) <;> (try simp at hc) <;> (try omega))
      | (refine ib (fun hc => ?_) (fun hc => ?_) <;> (try omega) <;> (try simp (disch := omega) only [if_pos, if_neg])))
      all_goals first | exact AW.le.alloc A _ | (simp [AThen, APost, ares, aresL, ares1, errV3] <;> exact AW.le.alloc A _)
  rw [if_neg e1]
  have e2 : ¬ ps.length < 1 := by omega
  have e3 : ¬ 16 < ps.length := by omega
  have e4 : (ps.length : Int) ≤ 16 := by omega
  have e5 : 1 ≤ (ps.length : Int) := by omega
  by_cases e6 : (ni : Int) = wds
  rotate_left
  · rw [if_pos e6]
    repeat' (first
    | (refine lwc fun R hR => ?_; simp [wrap_i64, wrap_u64, AW.row_get, astore, e2, e3, e4, e5, e6]; try simp (disch := omega) only [if_pos, if_neg, wrap_i64, wrap_u64])
    | (refine hR _ _ ?_; clear hR R) | (refine hK _ _ ?_; clear hK K) | refine lwn ?_ | refine lr ?_ | refine la ?_
    | refine wn fun K hK => ?_
    | simp only [wS, oFbR_0]
    | refine wl Tryz.mx oFbR_0 (by decide +kernel) fun K hK => ?_
    | (refine callK (hc _) ?_; rintro _ _ ⟨rfl, rfl⟩ _ _)
    | refine wb ?_ | refine wr ?_ | refine wk ?_ | refine we ?_ | refine ws ?_ | refine wq ?_
    | (refine wc rfl (fun hc => ?_) (fun hc => ?_) <;> (try simp at hc) <;> (try omega))
    | (refine ib (fun hc => ?_) (fun hc => ?_) <;> (try omega) <;> (try simp (disch := omega) only [if_pos, if_neg])))
    all_goals first | exact AW.le.alloc A _ | (simp [AThen, APost, ares, aresL, ares1, errV3] <;> exact AW.le.alloc A _)
  subst e6
  rw [if_neg (by simp)]
  obtain ⟨Rp, hRp⟩ : ∃ Rp, progsGo ps 0 = Rp := ⟨_, rfl⟩
  obtain ⟨Rk, hRk⟩ : ∃ Rk, pickGo ps.length pk 0 = Rk := ⟨_, rfl⟩
  have hR0 : Rp = progsGo (ps.drop 0) 0 := hRp.symm
  have hK0 : Rk = pickGo ps.length (pk.drop 0) 0 := hRk.symm
  rw [hRp, hRk]
  clear hRp hRk
  obtain ⟨V, hV⟩ : ∃ V, errV3 (match Rp with
    | some r => r
    | none => if 65536 < pk.length then (0, 0, 56) else match Rk with
      | some k => (0, k, 56)
      | none => (0, 0, 0)) = V := ⟨_, rfl⟩
  rw [hV]
  repeat' (first
  | (refine lwc fun R hR => ?_; simp [wrap_i64, wrap_u64, AW.row_get, astore, e2, e3, e4, e5]; try simp (disch := omega) only [if_pos, if_neg, wrap_i64, wrap_u64])
  | (refine hR _ _ ?_; clear hR R) | (refine hK _ _ ?_; clear hK K) | refine lwn ?_ | refine lr ?_ | refine la ?_
  | refine wn fun K hK => ?_
  | simp only [wS, oFbR_0]
  | refine wl Tryz.mx oFbR_0 (by decide +kernel) fun K hK => ?_
  | (refine callK (hc _) ?_; rintro _ _ ⟨rfl, rfl⟩ _ _)
  | refine wb ?_ | refine wr ?_ | refine wk ?_ | refine we ?_ | refine ws ?_ | refine wq ?_
  | (refine wc rfl (fun hc => ?_) (fun hc => ?_) <;> (try simp at hc) <;> (try omega))
  | (refine ib (fun hc => ?_) (fun hc => ?_) <;> (try omega) <;> (try simp (disch := omega) only [if_pos, if_neg])))
  rw [hO]
  have hleO : A.le (A.alloc O) := AW.le.alloc A O
  have hgO : (A.alloc O).get A.next = some O := by simp
  have hwO := hw.alloc O
  generalize A.alloc O = A1 at hleO hgO hwO ⊢
  subst hO
  have hrO := AW.row_of hgO
  refine awp_loop (fun k fr A' => A1 = A' ∧ ∃ i : Nat, k = ps.length - i ∧ i ≤ ps.length ∧ fr 1 = .pointer (some ⟨A.next, 0, none⟩) ∧ fr 6 = .int .i64 i ∧ Rp = progsGo (ps.drop i) i) ps.length ?_ ?_
  · exact ⟨rfl, 0, rfl, Nat.zero_le _, rfl, rfl, hR0⟩
  · rintro k fr A' ⟨rfl, i, rfl, hi, g1, g6, he⟩
    by_cases hlt : i < ps.length
    · obtain ⟨q, row, u, hq', hrow, hcell, hu⟩ := (hp.le hleO hw).at hlt
      subst hq'
      have hwi : IntKind.i64.wrap ((i : Int) + 1) = ((i + 1 : Nat) : Int) := wrap_i64 (by omega) (by omega)
      have hdr : ps.drop i = ps[i] :: ps.drop (i + 1) := List.drop_eq_getElem_cons hlt
      rw [hdr] at he
      unfold progsGo at he
      have cC := refCheck_call hn u ps[i] _ hu
      rw [check_eq] at cC
      unfold errV at cC
      by_cases z : (progCheck ps[i]).2 = 0
      · rw [if_pos z] at he
        rw [z] at cC
        refine awp_seq ?_
        repeat' (first
        | (refine lwc fun R hR => ?_; simp [wrap_i64, wrap_u64, hrO, g1, g6, hlt, hwi, hrow, hcell]; try simp (disch := omega) only [if_pos, if_neg, wrap_i64, wrap_u64])
        | (refine hR _ _ ?_; clear hR R) | (refine hK _ _ ?_; clear hK K) | refine lwn ?_ | refine lr ?_ | refine la ?_
        | refine wn fun K hK => ?_
        | simp only [wS, oFbR_0]
        | refine wl Tryz.mx oFbR_0 (by decide +kernel) fun K hK => ?_
        | (refine callK (cC) ?_; rintro _ _ ⟨rfl, rfl⟩ _ _)
        | refine wb ?_ | refine wr ?_ | refine wk ?_ | refine we ?_ | refine ws ?_ | refine wq ?_
        | (refine wc rfl (fun hc => ?_) (fun hc => ?_) <;> (try simp at hc) <;> (try omega))
        | (refine ib (fun hc => ?_) (fun hc => ?_) <;> (try omega) <;> (try simp (disch := omega) only [if_pos, if_neg])))
        refine ⟨ps.length - (i + 1), by omega, rfl, i + 1, rfl, by omega, ?_, ?_, he⟩ <;> simp [g1, g6]
      · rw [if_neg z] at he
        rw [he] at hV
        simp only at hV
        refine awp_seq ?_
        repeat' (first
        | (refine lwc fun R hR => ?_; simp [wrap_i64, wrap_u64, hrO, g1, g6, hlt, hwi, hrow, hcell, z]; try simp (disch := omega) only [if_pos, if_neg, wrap_i64, wrap_u64])
        | (refine hR _ _ ?_; clear hR R) | (refine hK _ _ ?_; clear hK K) | refine lwn ?_ | refine lr ?_ | refine la ?_
        | refine wn fun K hK => ?_
        | simp only [wS, oFbR_0]
        | refine wl Tryz.mx oFbR_0 (by decide +kernel) fun K hK => ?_
        | (refine callK (cC) ?_; rintro _ _ ⟨rfl, rfl⟩ _ _)
        | refine wb ?_ | refine wr ?_ | refine wk ?_ | refine we ?_ | refine ws ?_ | refine wq ?_
        | (refine wc rfl (fun hc => ?_) (fun hc => ?_) <;> (try simp at hc) <;> (try omega))
        | (refine ib (fun hc => ?_) (fun hc => ?_) <;> (try omega) <;> (try simp (disch := omega) only [if_pos, if_neg])))
        all_goals first | exact hleO | (simp [ABlock, AThen, APost, ares, aresL, ares1, ← hV, errV3] <;> exact hleO)
    have hil : i = ps.length := by omega
    subst hil
    rw [List.drop_length] at he
    rw [he] at hV
    simp only [progsGo] at hV
    by_cases f1 : 65536 < pk.length
    · rw [if_pos f1] at hV
      refine awp_seq ?_
      repeat' (first
      | (refine lwc fun R hR => ?_; simp [wrap_i64, wrap_u64, hrO, g1, g6, hlt, f1]; try simp (disch := omega) only [if_pos, if_neg, wrap_i64, wrap_u64])
      | (refine hR _ _ ?_; clear hR R) | (refine hK _ _ ?_; clear hK K) | refine lwn ?_ | refine lr ?_ | refine la ?_
      | refine wn fun K hK => ?_
      | simp only [wS, oFbR_0]
      | refine wl Tryz.mx oFbR_0 (by decide +kernel) fun K hK => ?_
      | refine wb ?_ | refine wr ?_ | refine wk ?_ | refine we ?_ | refine ws ?_ | refine wq ?_
      | (refine wc rfl (fun hc => ?_) (fun hc => ?_) <;> (try simp at hc) <;> (try omega))
      | (refine ib (fun hc => ?_) (fun hc => ?_) <;> (try omega) <;> (try simp (disch := omega) only [if_pos, if_neg])))
      all_goals first | exact hleO | (simp [ABlock, AThen, APost, ares, aresL, ares1, ← hV, errV3] <;> exact hleO)
    rw [if_neg f1] at hV
    refine awp_seq ?_
    repeat' (first
    | (refine lwc fun R hR => ?_; simp [wrap_i64, wrap_u64, hrO, g1, g6, hlt, f1]; try simp (disch := omega) only [if_pos, if_neg, wrap_i64, wrap_u64])
    | (refine hR _ _ ?_; clear hR R) | (refine hK _ _ ?_; clear hK K) | refine lwn ?_ | refine lr ?_ | refine la ?_
    | refine wn fun K hK => ?_
    | simp only [wS, oFbR_0]
    | refine wl Tryz.mx oFbR_0 (by decide +kernel) fun K hK => ?_
    | refine wb ?_ | refine wr ?_ | refine wk ?_ | refine we ?_ | refine ws ?_ | refine wq ?_
    | (refine wc rfl (fun hc => ?_) (fun hc => ?_) <;> (try simp at hc) <;> (try omega))
    | (refine ib (fun hc => ?_) (fun hc => ?_) <;> (try omega) <;> (try simp (disch := omega) only [if_pos, if_neg])))
    refine awp_loop (fun k fr2 A' => A1 = A' ∧ ∃ i : Nat, k = pk.length - i ∧ i ≤ pk.length ∧ fr2 1 = .pointer (some ⟨A.next, 0, none⟩) ∧ fr2 9 = .int .i64 i ∧ Rk = pickGo ps.length (pk.drop i) i) pk.length ?_ ?_
    · refine ⟨rfl, 0, rfl, Nat.zero_le _, ?_, ?_, hK0⟩ <;> simp [g1]
    · rintro k fr2 A' ⟨rfl, i, rfl, hi2, j1, j9, hf⟩
      by_cases hlt2 : i < pk.length
      · obtain ⟨q, row, hq', hrow, hcell⟩ := (hk.le hleO hw).at hlt2
        subst hq'
        have hwi : IntKind.i64.wrap ((i : Int) + 1) = ((i + 1 : Nat) : Int) := wrap_i64 (by omega) (by omega)
        have hdr : pk.drop i = pk[i] :: pk.drop (i + 1) := List.drop_eq_getElem_cons hlt2
        rw [hdr] at hf
        unfold pickGo at hf
        generalize pk[i] = x at hcell hf
        by_cases b1 : x < 0
        · rw [if_pos (.inl b1)] at hf
          rw [hf] at hV
          simp only at hV
          refine awp_seq ?_
          repeat' (first
          | (refine lwc fun R hR => ?_; simp [wrap_i64, wrap_u64, hrO, j1, j9, hlt2, hwi, hrow, hcell, b1]; try simp (disch := omega) only [if_pos, if_neg, wrap_i64, wrap_u64])
          | (refine hR _ _ ?_; clear hR R) | (refine hK _ _ ?_; clear hK K) | refine lwn ?_ | refine lr ?_ | refine la ?_
          | refine wn fun K hK => ?_
          | simp only [wS, oFbR_0]
          | refine wl Tryz.mx oFbR_0 (by decide +kernel) fun K hK => ?_
          | refine wb ?_ | refine wr ?_ | refine wk ?_ | refine we ?_ | refine ws ?_ | refine wq ?_
          | (refine wc rfl (fun hc => ?_) (fun hc => ?_) <;> (try simp at hc) <;> (try omega))
          | (refine ib (fun hc => ?_) (fun hc => ?_) <;> (try omega) <;> (try simp (disch := omega) only [if_pos, if_neg])))
          all_goals first | exact hleO | (simp [ABlock, AThen, APost, ares, aresL, ares1, ← hV, errV3] <;> exact hleO)
        by_cases b2 : (ps.length : Int) ≤ x
        · rw [if_pos (.inr b2)] at hf
          rw [hf] at hV
          simp only at hV
          refine awp_seq ?_
          repeat' (first
          | (refine lwc fun R hR => ?_; simp [wrap_i64, wrap_u64, hrO, j1, j9, hlt2, hwi, hrow, hcell, b1, b2]; try simp (disch := omega) only [if_pos, if_neg, wrap_i64, wrap_u64])
          | (refine hR _ _ ?_; clear hR R) | (refine hK _ _ ?_; clear hK K) | refine lwn ?_ | refine lr ?_ | refine la ?_
          | refine wn fun K hK => ?_
          | simp only [wS, oFbR_0]
          | refine wl Tryz.mx oFbR_0 (by decide +kernel) fun K hK => ?_
          | refine wb ?_ | refine wr ?_ | refine wk ?_ | refine we ?_ | refine ws ?_ | refine wq ?_
          | (refine wc rfl (fun hc => ?_) (fun hc => ?_) <;> (try simp at hc) <;> (try omega))
          | (refine ib (fun hc => ?_) (fun hc => ?_) <;> (try omega) <;> (try simp (disch := omega) only [if_pos, if_neg])))
          all_goals first | exact hleO | (simp [ABlock, AThen, APost, ares, aresL, ares1, ← hV, errV3] <;> exact hleO)
        · rw [if_neg (by omega)] at hf
          refine awp_seq ?_
          repeat' (first
          | (refine lwc fun R hR => ?_; simp [wrap_i64, wrap_u64, hrO, j1, j9, hlt2, hwi, hrow, hcell, b1, b2]; try simp (disch := omega) only [if_pos, if_neg, wrap_i64, wrap_u64])
          | (refine hR _ _ ?_; clear hR R) | (refine hK _ _ ?_; clear hK K) | refine lwn ?_ | refine lr ?_ | refine la ?_
          | refine wn fun K hK => ?_
          | simp only [wS, oFbR_0]
          | refine wl Tryz.mx oFbR_0 (by decide +kernel) fun K hK => ?_
          | refine wb ?_ | refine wr ?_ | refine wk ?_ | refine we ?_ | refine ws ?_ | refine wq ?_
          | (refine wc rfl (fun hc => ?_) (fun hc => ?_) <;> (try simp at hc) <;> (try omega))
          | (refine ib (fun hc => ?_) (fun hc => ?_) <;> (try omega) <;> (try simp (disch := omega) only [if_pos, if_neg])))
          refine ⟨pk.length - (i + 1), by omega, rfl, i + 1, rfl, by omega, ?_, ?_, hf⟩ <;> simp [j1, j9]
      · have hil2 : i = pk.length := by omega
        subst hil2
        rw [List.drop_length] at hf
        rw [hf] at hV
        simp only [pickGo] at hV
        refine awp_seq ?_
        repeat' (first
        | (refine lwc fun R hR => ?_; simp [wrap_i64, wrap_u64, hrO, j1, j9, hlt2]; try simp (disch := omega) only [if_pos, if_neg, wrap_i64, wrap_u64])
        | (refine hR _ _ ?_; clear hR R) | (refine hK _ _ ?_; clear hK K) | refine lwn ?_ | refine lr ?_ | refine la ?_
        | refine wn fun K hK => ?_
        | simp only [wS, oFbR_0]
        | refine wl Tryz.mx oFbR_0 (by decide +kernel) fun K hK => ?_
        | refine wb ?_ | refine wr ?_ | refine wk ?_ | refine we ?_ | refine ws ?_ | refine wq ?_
        | (refine wc rfl (fun hc => ?_) (fun hc => ?_) <;> (try simp at hc) <;> (try omega))
        | (refine ib (fun hc => ?_) (fun hc => ?_) <;> (try omega) <;> (try simp (disch := omega) only [if_pos, if_neg])))
        all_goals first | exact hleO | (simp [ABlock, AThen, APost, ares, aresL, ares1, ← hV, errV3] <;> exact hleO)
end Go.Stx
