/-
  The bound of a script, the program's side.
-/
import Derived.Test.YtkcicllfpdcecaaDoorFbT
namespace Go.Stx
open Go Go.Proofs
attribute [local irreducible] AWP LWalk ACall ARounds lops nops
set_option linter.unusedVariables false
set_option linter.unusedSimpArgs false
set_option linter.unusedSectionVars false
set_option maxRecDepth 20000
variable [Gl]

def permF (t w : Int) : Int := if t < 1 ∨ 16 < t then 54 else if w < t ∨ 1000 < w then 2 else 0
theorem perm_call (t w : Int) (A : AW) : ACall Tryd.prog 16 [.int .i64 t, .int .i64 w] A (fun v A' => v = .int .i64 (permF t w) ∧ A = A') := by
  refine acall_intro Tryd.func16 rfl (by kernel_rfl) fun _ => ?_
  obtain ⟨V, hV⟩ : ∃ V, permF t w = V := ⟨_, rfl⟩
  rw [hV]
  unfold permF at hV
  repeat' (first
  | (refine lwc fun R hR => ?_; simp [wrap_i64, wrap_u64]; try simp (disch := omega) only [if_pos, if_neg, wrap_i64, wrap_u64])
  | (refine hR _ _ ?_; clear hR R) | (refine hK _ _ ?_; clear hK K) | refine lwn ?_ | refine lr ?_ | refine la ?_
  | refine wn fun K hK => ?_
  | simp only [wS]
  | refine wb ?_ | refine wr ?_ | refine wk ?_ | refine we ?_ | refine ws ?_ | refine wq ?_
  | (refine wc rfl (fun hc => ?_) (fun hc => ?_) <;> (try simp at hc) <;> (try omega))
  | (refine ib (fun hc => ?_) (fun hc => ?_) <;> (try omega) <;> (try simp (disch := omega) only [if_pos, if_neg])))
  all_goals (
    refine ⟨_, by first | (simp; done) | (simp; rfl), ?_, rfl⟩
    rw [← hV]
    congr 1
    repeat (first | rw [if_pos (by omega)] | rw [if_neg (by omega)])
    first | done | skip)
theorem win_call (t w : Int) (A : AW) : ACall Tryd.prog 20 [.int .i64 t, .int .i64 w] A (fun v A' => v = .bool (decide (t ≤ w ∧ w ≤ 1000)) ∧ A = A') := by
  refine acall_intro Tryd.func20 rfl (by kernel_rfl) fun _ => ?_
  repeat' (first
  | (refine lwc fun R hR => ?_; simp [wrap_i64, wrap_u64]; try simp (disch := omega) only [if_pos, if_neg, wrap_i64, wrap_u64])
  | (refine hR _ _ ?_; clear hR R) | (refine hK _ _ ?_; clear hK K) | refine lwn ?_ | refine lr ?_ | refine la ?_
  | refine wn fun K hK => ?_
  | simp only [wS]
  | refine wb ?_ | refine wr ?_ | refine wk ?_ | refine we ?_ | refine ws ?_ | refine wq ?_
  | (refine wc rfl (fun hc => ?_) (fun hc => ?_) <;> (try simp at hc) <;> (try omega))
  | (refine ib (fun hc => ?_) (fun hc => ?_) <;> (try omega) <;> (try simp (disch := omega) only [if_pos, if_neg])))
  all_goals (simp_all <;> omega)

def boundF (c : CfgS) (ni : Nat) (ps : List (List InsV)) (w : Int) : Int × Int :=
  if (scriptErr c ni ps []).2.2 ≠ 0 then (0, (scriptErr c ni ps []).2.2)
  else if c.strong = true then (0, 1)
  else if ¬ ((ps.length : Int) ≤ w ∧ w ≤ 1000) then (0, 2)
  else (4 * w * (allS c ps.length ps ps.length + 1), 0)

theorem progsGo_ok : ∀ {l : List (List InsV)} {t : Nat}, progsGo l t = none → ∀ p ∈ l, progOk p = true
  | [], _, _, p, hp => by cases hp
  | q :: l, t, h, p, hp => by
    unfold progsGo at h
    split at h
    · rename_i h0
      rcases List.mem_cons.1 hp with rfl | hp
      · simpa [progOk] using h0
      · exact progsGo_ok h p hp
    · cases h
theorem progsGo_err : ∀ {l : List (List InsV)} {t : Nat} {r}, progsGo l t = some r → r.2.2 ≠ 0
  | [], _, r, h => by cases h
  | q :: l, t, r, h => by
    unfold progsGo at h
    split at h
    · exact progsGo_err h
    · rename_i h0
      injection h with h
      subst h
      exact h0
theorem scriptErr_ok {c : CfgS} {ni : Nat} {ps : List (List InsV)} {pk : List Int} (h : (scriptErr c ni ps pk).2.2 = 0) : cfgErr c = 0 ∧ (1 ≤ ps.length ∧ ps.length ≤ 16) ∧ (ni : Int) = c.words ∧ ∀ p ∈ ps, progOk p = true := by
  unfold scriptErr at h
  split at h
  · rename_i h1; exact absurd h h1
  · rename_i h1
    split at h
    · cases h
    · rename_i h2
      split at h
      · cases h
      · rename_i h3
        split at h
        · rename_i r h4; exact absurd h (progsGo_err h4)
        · rename_i h4
          exact ⟨Decidable.not_not.1 h1, by omega, Decidable.not_not.1 h3, progsGo_ok h4⟩
theorem allS_range {c : CfgS} {n : Nat} {ps : List (List InsV)} (h0 : cfgErr c = 0) (hn : n ≤ 16) (hv : ∀ p ∈ ps, progOk p = true) : ∀ t, 0 ≤ allS c n ps t ∧ allS c n ps t ≤ 300000 * t
  | 0 => by unfold allS; omega
  | t + 1 => by
    have ih := allS_range (c := c) (n := n) h0 hn hv t
    unfold allS
    split
    · rename_i p hp
      have := stepsF_range (c := c) (n := n) h0 (hv p (List.mem_of_getElem? hp)) hn
      omega
    · omega
def boundV (x : Int × Int) : Value := .tuple #[.int .i64 x.1, .int .i64 x.2]

set_option maxHeartbeats 8000000 in
theorem bound_call (hF : FOK) (c : CfgS) (vp vk : Value) (ni ci : Nat) (oi ok : Option Addr) (nk ck : Nat) (ps : List (List InsV)) (w : Int) (A : AW) (hp : IsProgs A vp ps) :
    ACall Tryd.prog 7 [scV c (.slice oi ni ci) vp (.slice ok nk ck), .int .i64 w] A (fun u A' => u = boundV (boundF c ni ps w) ∧ A = A') := by
  refine ACall.gc0 (V := boundV (boundF c ni ps w)) (VBelow.tuple (by simp)) (fun hw => ?_) (by kernel_rfl)
  refine acall_intro Tryd.func7 rfl (by kernel_rfl) fun _ => ?_
  obtain ⟨op, cp, rfl, _⟩ := hp.form
  have cS := fun O O' => script_call hF c _ _ _ ni ci oi ps [] ((A.alloc O).set A.next O') rfl (hp.le (AW.le.upd A O O') hw) (IsInts.nil _ _)
  have cT := fun v p B h => steps_call hF c ps.length v p B h
  have hall := @allS_range _ c ps.length ps
  have hok := @scriptErr_ok _ c ni ps []
  obtain ⟨V, hV⟩ : ∃ V, boundF c ni ps w = V := ⟨_, rfl⟩
  rw [hV]
  unfold boundF at hV
  unfold errV3 at cS
  generalize scriptErr c ni ps [] = se at cS hV hok
  have hsA : ∀ t, allS c ps.length ps (t + 1) = allS c ps.length ps t + match ps[t]? with
    | some p => stepsF c ps.length p
    | none => 0 := fun _ => rfl
  have hsR := fun p h0 hv => @stepsF_range _ c ps.length p h0 hv
  have hs0 : allS c ps.length ps 0 = 0 := rfl
  generalize allS c ps.length ps = al at hV hall hsA hs0
  obtain ⟨st, sa, e⟩ := se
  obtain ⟨wds, ords, bas, c0, c1, c2, c3, rds, wrs, als, fre, clk, stg⟩ := c
  unfold scV scCells at cS ⊢
  simp only [CfgS.v, CfgS.cells, List.cons_append, List.nil_append] at cS cT ⊢
  simp only at hV hok
  by_cases e0 : e = 0
  rotate_left
  · rw [if_pos e0] at hV
    repeat' (first
    | (refine lwc fun R hR => ?_; simp [wrap_i64, wrap_u64, AW.row_get, astore, e0]; try simp (disch := omega) only [if_pos, if_neg, wrap_i64, wrap_u64])
    | (refine hR _ _ ?_; clear hR R) | (refine hK _ _ ?_; clear hK K) | refine lwn ?_ | refine lr ?_ | refine la ?_
    | refine wn fun K hK => ?_
    | simp only [wS]
    | (refine callK (cS _ _) ?_; rintro _ _ ⟨rfl, rfl⟩ _ _)
    | refine wb ?_ | refine wr ?_ | refine wk ?_ | refine we ?_ | refine ws ?_ | refine wq ?_
    | (refine wc rfl (fun hc => ?_) (fun hc => ?_) <;> (try simp at hc) <;> (try omega))
    | (refine ib (fun hc => ?_) (fun hc => ?_) <;> (try omega) <;> (try simp (disch := omega) only [if_pos, if_neg])))
    all_goals first | exact AW.le.upd A _ _ | (simp [AThen, APost, ares, aresL, ares1, boundV, ← hV] <;> exact AW.le.upd A _ _)
  subst e0
  obtain ⟨k0, ⟨k1, k2⟩, k3, k4⟩ := hok rfl
  rw [if_neg (by simp)] at hV
  cases stg with
  | true =>
    rw [if_pos rfl] at hV
    repeat' (first
    | (refine lwc fun R hR => ?_; simp [wrap_i64, wrap_u64, AW.row_get, astore]; try simp (disch := omega) only [if_pos, if_neg, wrap_i64, wrap_u64])
    | (refine hR _ _ ?_; clear hR R) | (refine hK _ _ ?_; clear hK K) | refine lwn ?_ | refine lr ?_ | refine la ?_
    | refine wn fun K hK => ?_
    | simp only [wS]
    | (refine callK (cS _ _) ?_; rintro _ _ ⟨rfl, rfl⟩ _ _)
    | refine wb ?_ | refine wr ?_ | refine wk ?_ | refine we ?_ | refine ws ?_ | refine wq ?_
    | (refine wc rfl (fun hc => ?_) (fun hc => ?_) <;> (try simp at hc) <;> (try omega))
    | (refine ib (fun hc => ?_) (fun hc => ?_) <;> (try omega) <;> (try simp (disch := omega) only [if_pos, if_neg])))
    all_goals first | exact AW.le.upd A _ _ | (simp [AThen, APost, ares, aresL, ares1, boundV, ← hV] <;> exact AW.le.upd A _ _)
  | false =>
    rw [if_neg (by simp)] at hV
    have hpm : permF ps.length w = if ¬ ((ps.length : Int) ≤ w ∧ w ≤ 1000) then 2 else 0 := by
      unfold permF
      rw [if_neg (by omega)]
      split <;> split <;> first | rfl | omega
    have cP := fun B => perm_call ps.length w B
    rw [hpm] at cP
    by_cases w0 : (ps.length : Int) ≤ w ∧ w ≤ 1000
    rotate_left
    · rw [if_pos w0] at hV
      simp only [w0, not_false_eq_true, if_true] at cP
      repeat' (first
      | (refine lwc fun R hR => ?_; simp [wrap_i64, wrap_u64, AW.row_get, astore]; try simp (disch := omega) only [if_pos, if_neg, wrap_i64, wrap_u64])
      | (refine hR _ _ ?_; clear hR R) | (refine hK _ _ ?_; clear hK K) | refine lwn ?_ | refine lr ?_ | refine la ?_
      | refine wn fun K hK => ?_
      | simp only [wS]
      | (refine callK (cS _ _) ?_; rintro _ _ ⟨rfl, rfl⟩ _ _)
      | (refine callK (cP _) ?_; rintro _ _ ⟨rfl, rfl⟩ _ _)
      | refine wb ?_ | refine wr ?_ | refine wk ?_ | refine we ?_ | refine ws ?_ | refine wq ?_
      | (refine wc rfl (fun hc => ?_) (fun hc => ?_) <;> (try simp at hc) <;> (try omega))
      | (refine ib (fun hc => ?_) (fun hc => ?_) <;> (try omega) <;> (try simp (disch := omega) only [if_pos, if_neg])))
      all_goals first | exact AW.le.upd A _ _ | (simp [AThen, APost, ares, aresL, ares1, boundV, ← hV] <;> exact AW.le.upd A _ _)
    rw [if_neg (by simpa using w0)] at hV
    rw [if_neg (by simpa using w0)] at cP
    repeat' (first
    | (refine lwc fun R hR => ?_; simp [wrap_i64, wrap_u64, AW.row_get, astore]; try simp (disch := omega) only [if_pos, if_neg, wrap_i64, wrap_u64])
    | (refine hR _ _ ?_; clear hR R) | (refine hK _ _ ?_; clear hK K) | refine lwn ?_ | refine lr ?_ | refine la ?_
    | refine wn fun K hK => ?_
    | simp only [wS]
    | (refine callK (cS _ _) ?_; rintro _ _ ⟨rfl, rfl⟩ _ _)
    | (refine callK (cP _) ?_; rintro _ _ ⟨rfl, rfl⟩ _ _)
    | refine wb ?_ | refine wr ?_ | refine wk ?_ | refine we ?_ | refine ws ?_ | refine wq ?_
    | (refine wc rfl (fun hc => ?_) (fun hc => ?_) <;> (try simp at hc) <;> (try omega))
    | (refine ib (fun hc => ?_) (fun hc => ?_) <;> (try omega) <;> (try simp (disch := omega) only [if_pos, if_neg])))
    obtain ⟨O, hO⟩ : ∃ O, (AObj.cells [.int .i64 wds, .int .i64 ords, .int .i64 bas, .int .i64 c0, .int .i64 c1, .int .i64 c2, .int .i64 c3, .int .i64 rds, .int .i64 wrs, .int .i64 als, .int .i64 fre, .int .i64 clk, .bool false, .slice oi ni ci, .slice op ps.length cp, .slice none 0 0] true 1) = O := ⟨_, rfl⟩
    rw [hO]
    obtain ⟨O2, hO2⟩ : ∃ O2, (AObj.cells [.int .i64 wds, .int .i64 ords, .int .i64 bas, .int .i64 c0, .int .i64 c1, .int .i64 c2, .int .i64 c3, .int .i64 rds, .int .i64 wrs, .int .i64 als, .int .i64 fre, .int .i64 clk, .bool false, .slice oi ni ci, .slice op ps.length cp, .slice ok nk ck] true 1) = O2 := ⟨_, rfl⟩
    rw [hO2]
    have hleO : A.le ((A.alloc O2).set A.next (some O)) := AW.le.upd A O2 _
    have hgO : ((A.alloc O2).set A.next (some O)).get A.next = some O := by simp
    generalize (A.alloc O2).set A.next (some O) = A1 at hleO hgO ⊢
    subst hO
    have hrO := AW.row_of hgO
    have hal := hall k0 k2 k4
    have hw4 : IntKind.i64.wrap (4 * w) = 4 * w := wrap_i64 (by omega) (by omega)
    refine awp_loop (fun k fr A' => A1 = A' ∧ ∃ i : Nat, k = ps.length - i ∧ i ≤ ps.length ∧ fr 1 = .int .i64 w ∧ fr 2 = .pointer (some ⟨A.next, 0, none⟩) ∧ fr 9 = .int .i64 ps.length ∧ fr 10 = .int .i64 (al i) ∧ fr 36 = .slice op ps.length cp ∧ fr 37 = .int .i64 ps.length ∧ fr 38 = .int .i64 i) ps.length ?_ ?_
    · refine ⟨rfl, 0, rfl, Nat.zero_le _, rfl, rfl, rfl, ?_, rfl, rfl, rfl⟩
      rw [hs0]
      rfl
    · rintro k fr A' ⟨rfl, i, rfl, hi, g1, g2, g9, g10, g36, g37, g38⟩
      have a1 := hal i
      by_cases hlt : i < ps.length
      · obtain ⟨q, row, u, hq', hrow, hcell, hu⟩ := (hp.le hleO hw).at hlt
        subst hq'
        have hwi : IntKind.i64.wrap ((i : Int) + 1) = ((i + 1 : Nat) : Int) := wrap_i64 (by omega) (by omega)
        have hx : ps[i]? = some ps[i] := List.getElem?_eq_getElem hlt
        have hS := hsA i
        rw [hx] at hS
        simp only at hS
        have cT1 := cT u ps[i] _ hu k0 (k4 _ (List.getElem_mem hlt)) k2
        have b1 := hsR ps[i] k0 (k4 _ (List.getElem_mem hlt)) k2
        have a2 := hal (i + 1)
        rw [hS] at a2
        have hws : IntKind.i64.wrap (al i + stepsF ⟨wds, ords, bas, c0, c1, c2, c3, rds, wrs, als, fre, clk, false⟩ ps.length ps[i]) = al (i + 1) := by rw [hS]; exact wrap_i64 (by omega) (by omega)
        refine awp_seq ?_
        repeat' (first
        | (refine lwc fun R hR => ?_; simp [wrap_i64, wrap_u64, g1, g2, g9, g10, g36, g37, g38, hlt, hwi, hrow, hcell, hrO, hws]; try simp (disch := omega) only [if_pos, if_neg, wrap_i64, wrap_u64])
        | (refine hR _ _ ?_; clear hR R) | (refine hK _ _ ?_; clear hK K) | refine lwn ?_ | refine lr ?_ | refine la ?_
        | refine wn fun K hK => ?_
        | simp only [wS]
        | (refine callK (cT1) ?_; rintro _ _ ⟨rfl, rfl⟩ _ _)
        | refine wb ?_ | refine wr ?_ | refine wk ?_ | refine we ?_ | refine ws ?_ | refine wq ?_
        | (refine wc rfl (fun hc => ?_) (fun hc => ?_) <;> (try simp at hc) <;> (try omega))
        | (refine ib (fun hc => ?_) (fun hc => ?_) <;> (try omega) <;> (try simp (disch := omega) only [if_pos, if_neg])))
        refine ⟨ps.length - (i + 1), by omega, rfl, i + 1, rfl, by omega, ?_, ?_, ?_, ?_, ?_, ?_, ?_⟩ <;> simp [g1, g2, g9, g10, g36, g37, g38]
      · have hil : i = ps.length := by omega
        subst hil
        have hm := mul_bound (a := 4 * w) (b := al ps.length + 1) (x := 4000) (y := 4800001) (by omega) (by omega) (by omega) (by omega)
        have hw1 : IntKind.i64.wrap (al ps.length + 1) = al ps.length + 1 := wrap_i64 (by omega) (by omega)
        have hw2 : IntKind.i64.wrap (4 * w * (al ps.length + 1)) = 4 * w * (al ps.length + 1) := wrap_i64 (by omega) (by omega)
        refine awp_seq ?_
        repeat' (first
        | (refine lwc fun R hR => ?_; simp [wrap_i64, wrap_u64, g1, g2, g9, g10, g36, g37, g38, hlt, hw4, hw1, hw2]; try simp (disch := omega) only [if_pos, if_neg, wrap_i64, wrap_u64])
        | (refine hR _ _ ?_; clear hR R) | (refine hK _ _ ?_; clear hK K) | refine lwn ?_ | refine lr ?_ | refine la ?_
        | refine wn fun K hK => ?_
        | simp only [wS]
        | refine wb ?_ | refine wr ?_ | refine wk ?_ | refine we ?_ | refine ws ?_ | refine wq ?_
        | (refine wc rfl (fun hc => ?_) (fun hc => ?_) <;> (try simp at hc) <;> (try omega))
        | (refine ib (fun hc => ?_) (fun hc => ?_) <;> (try omega) <;> (try simp (disch := omega) only [if_pos, if_neg])))
        all_goals first | exact hleO | (simp [ABlock, AThen, APost, ares, aresL, ares1, boundV, ← hV, hw4, hw1, hw2] <;> exact hleO)
end Go.Stx
