/-
  A machine is made: what New answers at any script.
-/
import Derived.Test.YtcffnkgjmneaeaaGreatDoorWrA
import Derived.Test.YtcffnkgjmneaeaaGreatDoorCeB
import Derived.Test.YtcffnkgjmneaeaaGreatDoorThA
import Derived.Test.YtcffnkgjmneaeaaGreatDoorFbZa
namespace Go.Stx
open Go Go.Proofs
attribute [local irreducible] AWP LWalk ACall ARounds lops nops
set_option linter.unusedVariables false
set_option linter.unusedSimpArgs false
set_option linter.unusedSectionVars false
set_option maxRecDepth 20000
variable [Gl]

theorem progsGo_none : ∀ {l : List (List InsV)} {t : Nat}, progsGo l t = none → ∀ i (hi : i < l.length), (progCheck l[i]).2 = 0
  | [], t, _, i, hi => by simp at hi
  | p :: l, t, h, i, hi => by
    unfold progsGo at h
    split at h
    · rename_i h0
      cases i with
      | zero => exact h0
      | succ i => exact progsGo_none h i (by simpa using hi)
    · cases h
theorem progsGo_some : ∀ {l : List (List InsV)} {t : Nat} {r : Nat × Nat × Int}, progsGo l t = some r → r.2.2 ≠ 0
  | [], t, r, h => by cases h
  | p :: l, t, r, h => by
    unfold progsGo at h
    split at h
    · exact progsGo_some h
    · rename_i h0
      injection h with h
      subst h
      exact h0

theorem script_ok {c : CfgS} {ni : Nat} {ps : List (List InsV)} {pk : List Int} (h : (scriptErr c ni ps pk).2.2 = 0) :
    scriptErr c ni ps pk = (0, 0, 0) ∧ cfgErr c = 0 ∧ 1 ≤ ps.length ∧ ps.length ≤ 16 ∧ (ni : Int) = c.words ∧ ∀ i (hi : i < ps.length), (progCheck ps[i]).2 = 0 := by
  unfold scriptErr at h ⊢
  by_cases h1 : cfgErr c ≠ 0
  · rw [if_pos h1] at h; exact absurd h h1
  rw [if_neg h1] at h ⊢
  by_cases h2 : ps.length < 1 ∨ 16 < ps.length
  · rw [if_pos h2] at h; cases h
  rw [if_neg h2] at h ⊢
  by_cases h3 : ¬ (ni : Int) = c.words
  · rw [if_pos h3] at h; cases h
  rw [if_neg h3] at h ⊢
  cases h4 : progsGo ps 0 with
  | some r => rw [h4] at h; exact absurd h (progsGo_some h4)
  | none =>
    rw [h4] at h
    simp only at h ⊢
    by_cases h5 : 65536 < pk.length
    · rw [if_pos h5] at h; cases h
    rw [if_neg h5] at h ⊢
    cases h6 : pickGo ps.length pk 0 with
    | some k => rw [h6] at h; cases h
    | none => exact ⟨rfl, by simpa using h1, by omega, by omega, by simpa using h3, progsGo_none h4⟩

set_option maxHeartbeats 8000000 in
theorem newOk_call (hF : FOK) (c : CfgS) (vi vp vk : Value) (zs : List Int) (ps : List (List InsV)) (pk : List Int) (A : AW) (hvi : IsInts A .u64 vi zs) (hp : IsProgs A vp ps) (hk : IsInts A .i64 vk pk)
    (he : (scriptErr c zs.length ps pk).2.2 = 0) : ACall Tryz.prog 32 [scV c vi vp vk] A (fun u A' => ∃ b, u = .tuple #[.pointer (some ⟨b, 0, none⟩), .int .i64 0, .int .i64 0, .int .i64 0] ∧ A.le A' ∧ A'.Wf) := by
  refine acall_intro Tryz.func32 rfl (by kernel_rfl) fun hw => ?_
  obtain ⟨hr, hce, hn1, hn2, hni, hpc⟩ := script_ok he
  obtain ⟨oi, ci, rfl, _⟩ := hvi.form
  have cS := fun O => script_call hF c (.slice oi zs.length ci) vp vk zs.length ci oi ps pk (A.alloc O) rfl (hp.le (AW.le.alloc A O) hw) (hk.le (AW.le.alloc A O) hw)
  rw [hr] at cS
  obtain ⟨op, cp, rfl, _⟩ := hp.form
  obtain ⟨ok, ck, rfl, _⟩ := hk.form
  have cN := fun O O' => cellsNew_call c hce ps.length hn1 hn2 (.slice oi zs.length ci) zs ((A.alloc O).alloc O') (hvi.le ((AW.le.alloc A O).trans (AW.le.alloc _ O')) hw) hni
  have cT := fun (i : Nat) (hi : i < ps.length) (u : Value) (B : AW) (h : IsIns B u ps[i]) => threadNew_call hF c i ps.length u ps[i] B h (by have := (progCheck_ok (hpc i hi)).1; omega)
  have hth : ∀ (i : Nat) (hi : i < ps.length), thrErr c i ps.length ps[i] = 0 := fun i hi => by
    unfold thrErr
    rw [if_neg (by simpa using hce), if_neg (by omega)]
    exact hpc i hi
  obtain ⟨wds, ords, bas, c0, c1, c2, c3, rds, wrs, als, fre, clk, stg⟩ := c
  unfold scV scCells CfgS.cells errV3 at cS
  unfold scV scCells CfgS.cells
  simp only [CfgS.v, CfgS.cells] at cN cT
  simp only [List.cons_append, List.nil_append] at cS ⊢
  repeat' (first
  | (refine lwc fun R hR => ?_; simp [wrap_i64, wrap_u64, AW.row_get, astore]; try simp (disch := omega) only [if_pos, if_neg, wrap_i64, wrap_u64])
  | (refine hR _ _ ?_; clear hR R) | (refine hK _ _ ?_; clear hK K) | refine lwn ?_ | refine lr ?_ | refine la ?_
  | refine wn fun K hK => ?_
  | simp only [wS]
  | (refine callK (cS _) ?_; rintro _ _ ⟨rfl, rfl⟩ _ _)
  | refine wb ?_ | refine wr ?_ | refine wk ?_ | refine we ?_ | refine ws ?_ | refine wq ?_
  | (refine wc rfl (fun hc => ?_) (fun hc => ?_) <;> (try simp at hc) <;> (try omega))
  | (refine ib (fun hc => ?_) (fun hc => ?_) <;> (try omega) <;> (try simp (disch := omega) only [if_pos, if_neg])))
  refine (cN _ _).mono ?_
  rintro u A2 ⟨bm, rfl, hle2, hw2⟩
  first | refine ⟨hle2, ?_⟩ | skip
  have hwA := (hw.alloc (.cells [.int .i64 wds, .int .i64 ords, .int .i64 bas, .int .i64 c0, .int .i64 c1, .int .i64 c2, .int .i64 c3, .int .i64 rds, .int .i64 wrs, .int .i64 als, .int .i64 fre, .int .i64 clk, .bool stg, .slice oi zs.length ci, .slice op ps.length cp, .slice ok pk.length ck] true 1)).alloc (.cells [.pointer none, .slice none 0 0, .slice none 0 0, .slice none 0 0] true 1)
  have hbs := hle2.keep hwA (i := A.next) (o := .cells [.int .i64 wds, .int .i64 ords, .int .i64 bas, .int .i64 c0, .int .i64 c1, .int .i64 c2, .int .i64 c3, .int .i64 rds, .int .i64 wrs, .int .i64 als, .int .i64 fre, .int .i64 clk, .bool stg, .slice oi zs.length ci, .slice op ps.length cp, .slice ok pk.length ck] true 1) (by simp [AW.get_alloc])
  have hbm := hle2.keep hwA (i := A.next + 1) (o := .cells [.pointer none, .slice none 0 0, .slice none 0 0, .slice none 0 0] true 1) (by simp)
  have hleA := ((AW.le.alloc A _).trans (AW.le.alloc _ _)).trans hle2
  have hlt2 := hw2.lt hbm
  have m1 : ¬ A.next = A.next + 1 := by omega
  have m2 : ¬ A.next + 1 = A.next := by omega
  repeat' (first
  | (refine lwc fun R hR => ?_; simp [wrap_i64, wrap_u64, hbs, hbm, m1, m2, AW.row_get, astore]; try simp (disch := omega) only [if_pos, if_neg, wrap_i64, wrap_u64])
  | (refine hR _ _ ?_; clear hR R) | (refine hK _ _ ?_; clear hK K) | refine lwn ?_ | refine lr ?_ | refine la ?_
  | refine wn fun K hK => ?_
  | simp only [wS]
  | refine wb ?_ | refine wr ?_ | refine wk ?_ | refine we ?_ | refine ws ?_ | refine wq ?_
  | (refine wc rfl (fun hc => ?_) (fun hc => ?_) <;> (try simp at hc) <;> (try omega))
  | (refine ib (fun hc => ?_) (fun hc => ?_) <;> (try omega) <;> (try simp (disch := omega) only [if_pos, if_neg])))
  refine awp_loop (fun k fr A' => ∃ (i : Nat) (vt : Value) (us : List Value), k = ps.length - i ∧ i ≤ ps.length ∧ us.length = i ∧ fr 1 = .pointer (some ⟨A.next, 0, none⟩) ∧ fr 2 = .pointer (some ⟨A.next + 1, 0, none⟩) ∧ fr 38 = .slice op ps.length cp ∧ fr 39 = .int .i64 ps.length ∧ fr 40 = .int .i64 i ∧
    A.le A' ∧ A'.Wf ∧ A'.get A.next = some (.cells [.int .i64 wds, .int .i64 ords, .int .i64 bas, .int .i64 c0, .int .i64 c1, .int .i64 c2, .int .i64 c3, .int .i64 rds, .int .i64 wrs, .int .i64 als, .int .i64 fre, .int .i64 clk, .bool stg, .slice oi zs.length ci, .slice op ps.length cp, .slice ok pk.length ck] true 1) ∧
    A'.get (A.next + 1) = some (.cells [.pointer (some ⟨bm, 0, none⟩), vt, .slice none 0 0, .slice none 0 0] true 1) ∧ OwnSl (A.next + 2) A' 1 vt i us) ps.length ?_ ?_
  · refine ⟨0, .slice none 0 0, [], rfl, Nat.zero_le _, rfl, rfl, rfl, rfl, rfl, rfl, hleA.set (by omega) _, hw2.set _ hlt2, ?_, AW.set_get_same, OwnSl.nil _ _ _⟩
    rw [AW.set_get_ne (by omega)]
    exact hbs
  clear hbs hbm hleA hlt2
  rintro k fr A' ⟨i, vt, us, rfl, hi, hus, g1, g2, g38, g39, g40, hleA, hw', hbs, hbm, hown⟩
  by_cases hlt : i < ps.length
  · obtain ⟨q, row, u, hq', hrow, hcell, hu⟩ := (hp.le hleA hw).at hlt
    subst hq'
    obtain ⟨ou, cu, rfl, _⟩ := hu.form
    have hwi : IntKind.i64.wrap ((i : Int) + 1) = ((i + 1 : Nat) : Int) := wrap_i64 (by omega) (by omega)
    have hst : ps.length - i = (ps.length - (i + 1)) + 1 := by omega
    obtain ⟨ovt, cvt, rfl, _⟩ := hown.is.form
    refine awp_seq ?_
    repeat' (first
    | (refine lwc fun R hR => ?_; simp [wrap_i64, wrap_u64, g1, g2, g38, g39, g40, hlt, hwi, hrow, hcell, hbs, hbm, AW.row_get, astore]; try simp (disch := omega) only [if_pos, if_neg, wrap_i64, wrap_u64])
    | (refine hR _ _ ?_; clear hR R) | (refine hK _ _ ?_; clear hK K) | refine lwn ?_ | refine lr ?_ | refine la ?_
    | refine wn fun K hK => ?_
    | simp only [wS]
    | refine wb ?_ | refine wr ?_ | refine wk ?_ | refine we ?_ | refine ws ?_ | refine wq ?_
    | (refine wc rfl (fun hc => ?_) (fun hc => ?_) <;> (try simp at hc) <;> (try omega))
    | (refine ib (fun hc => ?_) (fun hc => ?_) <;> (try omega) <;> (try simp (disch := omega) only [if_pos, if_neg])))
    refine (cT i hlt _ _ hu).mono ?_
    rintro u A4 ⟨w, rfl, hw0, _, hle4, hw4⟩
    obtain ⟨bt, rfl⟩ := hw0 (hth i hlt)
    first | refine ⟨hle4, ?_⟩ | skip
    have hbs4 := hle4.keep hw' hbs
    have hbm4 := hle4.keep hw' hbm
    have hown4 := hown.le hle4 hw'
    have hn4 : A.next + 1 < A4.next := hw4.lt hbm4
    obtain ⟨v5, A5, e5, hown5, k5⟩ := app_one (P := Tryz.prog) (.pointer (some ⟨bt, 0, none⟩)) Tryz.underlying133 Tryz.info28 Tryz.zero28 rfl rfl (by simp) rfl hown4 (by omega) (by omega) hw4
    have hbs5 := (k5.get A.next (by omega) (fun e => by have := (hown4.lt hw4 e).1; omega)).trans hbs4
    have hbm5 := (k5.get (A.next + 1) hn4 (fun e => by have := (hown4.lt hw4 e).1; omega)).trans hbm4
    have hleA5 := k5.le A (by omega) (hleA.trans hle4)
    have hn5 : A.next + 1 < A5.next := k5.wf.lt hbm5
    obtain ⟨ov5, cv5, hv5, _⟩ := hown5.is.form
    subst hv5
    repeat' (first
    | (refine lwc fun R hR => ?_; simp [wrap_i64, wrap_u64, g1, g2, g38, g39, g40, hlt, hwi, hbs4, hbm4, hbm5, e5, AW.row_get, astore]; try simp (disch := omega) only [if_pos, if_neg, wrap_i64, wrap_u64])
    | (refine hR _ _ ?_; clear hR R) | (refine hK _ _ ?_; clear hK K) | refine lwn ?_ | refine lr ?_ | refine la ?_
    | refine wn fun K hK => ?_
    | simp only [wS]
    | refine wb ?_ | refine wr ?_ | refine wk ?_ | refine we ?_ | refine ws ?_ | refine wq ?_
    | (refine wc rfl (fun hc => ?_) (fun hc => ?_) <;> (try simp at hc) <;> (try omega))
    | (refine ib (fun hc => ?_) (fun hc => ?_) <;> (try omega) <;> (try simp (disch := omega) only [if_pos, if_neg])))
    refine ⟨ps.length - (i + 1), by omega, i + 1, _, us ++ [.pointer (some ⟨bt, 0, none⟩)], rfl, by omega, by simp [hus], ?_, ?_, ?_, ?_, ?_, hleA5.set (by omega) _, k5.wf.set _ hn5, ?_, AW.set_get_same, hown5.other fun j hj => AW.set_get_ne (fun e => by have := (hown5.lt k5.wf hj).1; omega)⟩
    · simp [g1]
    · simp [g2]
    · simp [g38]
    · simp [g39]
    · simp
    · rw [AW.set_get_ne (by omega)]
      exact hbs5
  · have hil : i = ps.length := by omega
    subst hil
    refine awp_seq ?_
    repeat' (first
    | (refine lwc fun R hR => ?_; simp [wrap_i64, wrap_u64, g1, g2, g38, g39, g40, AW.row_get]; try simp (disch := omega) only [if_pos, if_neg, wrap_i64, wrap_u64])
    | (refine hR _ _ ?_; clear hR R) | (refine hK _ _ ?_; clear hK K) | refine lwn ?_ | refine lr ?_ | refine la ?_
    | refine wn fun K hK => ?_
    | simp only [wS]
    | refine wb ?_ | refine wr ?_ | refine wk ?_ | refine we ?_ | refine ws ?_ | refine wq ?_
    | (refine wc rfl (fun hc => ?_) (fun hc => ?_) <;> (try simp at hc) <;> (try omega))
    | (refine ib (fun hc => ?_) (fun hc => ?_) <;> (try omega) <;> (try simp (disch := omega) only [if_pos, if_neg])))
    all_goals exact ⟨_, by simp [ares, aresL, ares1], A.next + 1, rfl, hleA, hw'⟩
end Go.Stx
